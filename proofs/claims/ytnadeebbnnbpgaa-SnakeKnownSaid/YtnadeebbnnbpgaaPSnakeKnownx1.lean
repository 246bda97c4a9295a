/- What the given program's functions come to, each a Lean function and the walk that shows it: no condition beside those that each theorem names. -/
import Derived.Test.YtnadeebbnnbpgaaPSnakeKnownx0
namespace Go.Proofs.Ytnadeebbnnbpgaa.PSnakeKnown
open Go.RowKit Go.Proofs.YtnadeebbnnbpgaaW.PrintWords Go.Proofs.YtnadeebbnnbpgaaW.PrintLast Go.Proofs.YtnadeebbnnbpgaaW.PrintMore
attribute [local go_sem] max2_int min2_int max_two min_two max_three min_three max_four min_four   -- for this text's walks alone
set_option linter.unusedVariables false
set_option linter.unusedSimpArgs false

/-! ### snake_within: function 18 -/
def snake_within.f (l0 : List Int) (l1 : List Int) (a2 : Int) (a3 : Int) : Option (Bool) := if a2 ≥ 0 then (if a2 ≤ (l0.length : Int) then (if a3 ≥ 0 then (some (decide (a3 ≤ (l1.length : Int)))) else (some false)) else (some false)) else (some false)
set_option maxHeartbeats 8000000 in
set_option maxRecDepth 100000 in
theorem snake_within.calls (A0 : Option Addr) (c0 : Nat) (l0 : List Int) (A1 : Option Addr) (c1 : Nat) (l1 : List Int) (a2 : Int) (a3 : Int) (r : Bool) (w : World) (hr0 : Kd.C (Kd.int .i64) w A0 l0.length l0) (hc0 : l0.length ≤ c0) (hr1 : Kd.C (Kd.int .i64) w A1 l1.length l1) (hc1 : l1.length ≤ c1) (h : snake_within.f l0 l1 a2 a3 = some r) :
  Calls Try.prog 18 #[.slice A0 l0.length c0, .slice A1 l1.length c1, .int .i64 a2, .int .i64 a3] w fun e w' => e = .returned (.bool r) ∧ Drawn0 w w' := by
 have HR0 := Aside0.mk hr0
 have HC0 := Aside0.mk hc0
 clear hr0 hc0
 have HR1 := Aside0.mk hr1
 have HC1 := Aside0.mk hc1
 clear hr1 hc1
 have H : (if a2 ≥ 0 then (if a2 ≤ (l0.length : Int) then (if a3 ≥ 0 then (some (decide (a3 ≤ (l1.length : Int)))) else (some false)) else (some false)) else (some false)) = some r := h
 clear h
 by_cases c5 : a2 ≥ 0
 ·rw [if_pos c5] at H
  have c5b0 : decide (0 ≤ a2) = true := decide_eq_true c5
  clear c5
  by_cases c6 : a2 ≤ (l0.length : Int)
  ·rw [if_pos c6] at H
   have c6b0 : decide (a2 ≤ (l0.length : Int)) = true := decide_eq_true c6
   clear c6
   by_cases c7 : a3 ≥ 0
   ·rw [if_pos c7] at H
    have c7b0 : decide (0 ≤ a3) = true := decide_eq_true c7
    clear c7
    obtain rfl := Option.some.inj H
    go_enter Try.func18, Try.ntmps18
    go_wp2
    go_ret
    exact ⟨by first | rfl | (simp; done) | (simp [*]; done), by repeat (first | exact Drawn0.refl _ | apply Drawn0.step)⟩
   ·rw [if_neg c7] at H
    have c7b0 : decide (0 ≤ a3) = false := decide_eq_false c7
    clear c7
    obtain rfl := Option.some.inj H
    go_enter Try.func18, Try.ntmps18
    go_wp2
    go_ret
    exact ⟨by first | rfl | (simp; done) | (simp [*]; done), by repeat (first | exact Drawn0.refl _ | apply Drawn0.step)⟩
  ·rw [if_neg c6] at H
   have c6b0 : decide (a2 ≤ (l0.length : Int)) = false := decide_eq_false c6
   clear c6
   obtain rfl := Option.some.inj H
   go_enter Try.func18, Try.ntmps18
   go_wp2
   go_ret
   exact ⟨by first | rfl | (simp; done) | (simp [*]; done), by repeat (first | exact Drawn0.refl _ | apply Drawn0.step)⟩
 ·rw [if_neg c5] at H
  have c5b0 : decide (0 ≤ a2) = false := decide_eq_false c5
  clear c5
  obtain rfl := Option.some.inj H
  go_enter Try.func18, Try.ntmps18
  go_wp2
  go_ret
  exact ⟨by first | rfl | (simp; done) | (simp [*]; done), by repeat (first | exact Drawn0.refl _ | apply Drawn0.step)⟩

/-! ### snake_Down: function 9 -/
def snake_Down.l0 : Nat → List Int → List Int → Int → Int → Int → Option (Int)
 | 0, _, _, _, _, _ => none
 | k + 1, x0, x1, x2, x3, x9 => if (wrap64 (x2 + x9)) < (x0.length : Int) then (if (wrap64 (x3 + x9)) < (x1.length : Int) then (if 0 ≤ (wrap64 (x2 + x9)) then (if 0 ≤ (wrap64 (x3 + x9)) then (if (rd x0 (wrap64 (x2 + x9))) = (rd x1 (wrap64 (x3 + x9))) then (snake_Down.l0 k x0 x1 x2 x3 (wrap64 (x9 + 1))) else (some x9)) else (none)) else (none)) else (some x9)) else (some x9)
def snake_Down.f (k : Nat) (l0 : List Int) (l1 : List Int) (a2 : Int) (a3 : Int) : Option (Int) := (snake_within.f l0 l1 a2 a3).bind fun t101 => (if t101 = true then (snake_Down.l0 k l0 l1 a2 a3 0) else (some 0))
theorem snake_Down.mono_l : ∀ k, (∀ y0 y1 y2 y3 y4, LeO (snake_Down.l0 k y0 y1 y2 y3 y4) (snake_Down.l0 (k + 1) y0 y1 y2 y3 y4))
 | 0 => fun _ _ _ _ _ r h => by simp [snake_Down.l0] at h
 | k + 1 => by
  have ih0 := snake_Down.mono_l k
  ·intro y0 y1 y2 y3 y4
   unfold snake_Down.l0
   repeat' first
   | (with_reducible exact ih0 _ _ _ _ _)
   | (with_reducible exact LeO.refl _)
   | (with_reducible exact LeO.none _)
   | (with_reducible refine LeO.ite ?_ ?_)
   | (with_reducible refine LeO.bind ?_ (fun _ => ?_))
   | exact ih0 _ _ _ _ _
   | exact LeO.none _
   | refine LeO.ite ?_ ?_
   | refine LeO.bind ?_ (fun _ => ?_)
theorem snake_Down.mono : ∀ a0 a1 a2 a3 k, LeO (snake_Down.f k a0 a1 a2 a3) (snake_Down.f (k + 1) a0 a1 a2 a3) := by
 intro a0 a1 a2 a3 k
 have ih0 := snake_Down.mono_l k
 unfold snake_Down.f
 repeat' first
   | (with_reducible exact ih0 _ _ _ _ _)
   | (with_reducible exact LeO.refl _)
   | (with_reducible exact LeO.none _)
   | (with_reducible refine LeO.ite ?_ ?_)
   | (with_reducible refine LeO.bind ?_ (fun _ => ?_))
   | exact ih0 _ _ _ _ _
   | exact LeO.none _
   | refine LeO.ite ?_ ?_
   | refine LeO.bind ?_ (fun _ => ?_)
set_option maxHeartbeats 8000000 in
set_option maxRecDepth 100000 in
theorem snake_Down.calls (k : Nat) (A0 : Option Addr) (c0 : Nat) (l0 : List Int) (A1 : Option Addr) (c1 : Nat) (l1 : List Int) (a2 : Int) (a3 : Int) (r : Int) (w : World) (hr0 : Kd.C (Kd.int .i64) w A0 l0.length l0) (hc0 : l0.length ≤ c0) (hr1 : Kd.C (Kd.int .i64) w A1 l1.length l1) (hc1 : l1.length ≤ c1) (h : snake_Down.f k l0 l1 a2 a3 = some r) :
  Calls Try.prog 9 #[.slice A0 l0.length c0, .slice A1 l1.length c1, .int .i64 a2, .int .i64 a3] w fun e w' => e = .returned (.int .i64 r) ∧ Drawn0 w w' := by
 have HR0 := Aside0.mk hr0
 have HC0 := Aside0.mk hc0
 clear hr0 hc0
 have HR1 := Aside0.mk hr1
 have HC1 := Aside0.mk hc1
 clear hr1 hc1
 have H : ((snake_within.f l0 l1 a2 a3).bind fun t101 => (if t101 = true then (snake_Down.l0 k l0 l1 a2 a3 0) else (some 0))) = some r := h
 clear h
 replace H := Option.bind_eq_some_iff.mp H
 obtain ⟨t101, A50, H⟩ := H
 replace H : (if t101 = true then (snake_Down.l0 k l0 l1 a2 a3 0) else (some 0)) = some r := H
 have A5 := Aside0.mk A50
 clear A50
 by_cases c6 : t101 = true
 ·subst c6
  have H1 : (snake_Down.l0 k l0 l1 a2 a3 0) = some r := by rw [if_pos rfl] at H; exact H
  clear H
  have H := H1
  clear H1
  have H' := Aside0.mk H
  clear H
  go_enter Try.func9, Try.ntmps9
  go_wp2_with (first | (go_at_call 18; (with_reducible refine (snake_within.calls _ _ l0 _ _ l1 a2 a3 true _ ?side1 ?side2 ?side3 ?side4 A5.out).mono ?_); (case side1 => repeat (first | exact HR0.out | (with_reducible refine Kd.C_alloc ?_ _) | (with_reducible refine Kd.C_drewN ?_ _) | (with_reducible refine Kd.C_drew ?_))); (case side2 => exact HC0.out); (case side3 => repeat (first | exact HR1.out | (with_reducible refine Kd.C_alloc ?_ _) | (with_reducible refine Kd.C_drewN ?_ _) | (with_reducible refine Kd.C_drew ?_))); (case side4 => exact HC1.out); rintro e w' ⟨rfl, ⟨nd, rfl⟩⟩; (try first | exact ⟨rfl, _, World.drewN_drewN _ _ _⟩ | exact ⟨rfl, _, Eq.trans (World.drewN_drewN _ _ _) (congrArg (World.drewN _) (Nat.add_assoc _ _ _))⟩)))
  repeat (go_quiet (first | (go_at_call 18; (with_reducible refine (snake_within.calls _ _ l0 _ _ l1 a2 a3 true _ ?side1 ?side2 ?side3 ?side4 A5.out).mono ?_); (case side1 => repeat (first | exact HR0.out | (with_reducible refine Kd.C_alloc ?_ _) | (with_reducible refine Kd.C_drewN ?_ _) | (with_reducible refine Kd.C_drew ?_))); (case side2 => exact HC0.out); (case side3 => repeat (first | exact HR1.out | (with_reducible refine Kd.C_alloc ?_ _) | (with_reducible refine Kd.C_drewN ?_ _) | (with_reducible refine Kd.C_drew ?_))); (case side4 => exact HC1.out); rintro e w' ⟨rfl, ⟨nd, rfl⟩⟩; (try first | exact ⟨rfl, _, World.drewN_drewN _ _ _⟩ | exact ⟨rfl, _, Eq.trans (World.drewN_drewN _ _ _) (congrArg (World.drewN _) (Nat.add_assoc _ _ _))⟩))); try go_wp2_with (first | (go_at_call 18; (with_reducible refine (snake_within.calls _ _ l0 _ _ l1 a2 a3 true _ ?side1 ?side2 ?side3 ?side4 A5.out).mono ?_); (case side1 => repeat (first | exact HR0.out | (with_reducible refine Kd.C_alloc ?_ _) | (with_reducible refine Kd.C_drewN ?_ _) | (with_reducible refine Kd.C_drew ?_))); (case side2 => exact HC0.out); (case side3 => repeat (first | exact HR1.out | (with_reducible refine Kd.C_alloc ?_ _) | (with_reducible refine Kd.C_drewN ?_ _) | (with_reducible refine Kd.C_drew ?_))); (case side4 => exact HC1.out); rintro e w' ⟨rfl, ⟨nd, rfl⟩⟩; (try first | exact ⟨rfl, _, World.drewN_drewN _ _ _⟩ | exact ⟨rfl, _, Eq.trans (World.drewN_drewN _ _ _) (congrArg (World.drewN _) (Nat.add_assoc _ _ _))⟩))))
  go_loopg [9] k (fun kq v9 w' => ∃ (x9_1 : Int), v9 = .int .i64 x9_1 ∧ Aside0 (snake_Down.l0 kq l0 l1 a2 a3 x9_1 = some r) ∧ Aside0 (kq ≤ k) ∧ Drawn0 w w')
  case atStart => exact ⟨(0), (by first | rfl | (simp; done) | (simp [*]; done)), H', ⟨Nat.le_refl _⟩, by repeat (first | exact Drawn0.refl _ | apply Drawn0.step)⟩
  case round =>
   clear H'
   try clear c1
   try clear p2
   try clear c6
   obtain ⟨x9_1, rfl, HA, HK1, ⟨m1, rfl⟩⟩ := hrel
   cases gk with
   | zero => exact absurd HA.out (by simp [snake_Down.l0])
   | succ k1 =>
    have H := HA.out
    clear HA
    simp only [snake_Down.l0] at H
    by_cases c7 : (wrap64 (a2 + x9_1)) < (l0.length : Int)
    ·rw [if_pos c7] at H
     have c7b0 : decide ((wrap64 (a2 + x9_1)) < (l0.length : Int)) = true := decide_eq_true c7
     clear c7
     by_cases c8 : (wrap64 (a3 + x9_1)) < (l1.length : Int)
     ·rw [if_pos c8] at H
      have c8b0 : decide ((wrap64 (a3 + x9_1)) < (l1.length : Int)) = true := decide_eq_true c8
      clear c8
      obtain ⟨ji9, hji9⟩ : ∃ j_ : Int, (wrap64 (a2 + x9_1)) = j_ := ⟨_, rfl⟩
      replace H : (if 0 ≤ (ji9) then (if 0 ≤ (wrap64 (a3 + x9_1)) then (if (rd l0 (ji9)) = (rd l1 (wrap64 (a3 + x9_1))) then (snake_Down.l0 k1 l0 l1 a2 a3 (wrap64 (x9_1 + 1))) else (some x9_1)) else (none)) else (none)) = some r := by first | (rw [hji9] at H; exact H) | (simp only [hji9] at H ⊢; exact H)
      (try rw [hji9] at c7b0)
      have hji9w : (IntKind.i64.wrap (a2 + x9_1)) = ji9 := (i64_w _).trans hji9
      by_cases c10 : 0 ≤ (ji9)
      ·rw [if_pos c10] at H
       have c10b0 : decide (0 ≤ (ji9)) = true := decide_eq_true c10
       clear c10
       obtain ⟨ji11, hji11⟩ : ∃ j_ : Int, (wrap64 (a3 + x9_1)) = j_ := ⟨_, rfl⟩
       replace H : (if 0 ≤ (ji11) then (if (rd l0 (ji9)) = (rd l1 (ji11)) then (snake_Down.l0 k1 l0 l1 a2 a3 (wrap64 (x9_1 + 1))) else (some x9_1)) else (none)) = some r := by first | (rw [hji11] at H; exact H) | (simp only [hji11] at H ⊢; exact H)
       (try rw [hji11] at c8b0)
       have hji11w : (IntKind.i64.wrap (a3 + x9_1)) = ji11 := (i64_w _).trans hji11
       by_cases c12 : 0 ≤ (ji11)
       ·rw [if_pos c12] at H
        have c12b0 : decide (0 ≤ (ji11)) = true := decide_eq_true c12
        clear c12
        by_cases c13 : (rd l0 (ji9)) = (rd l1 (ji11))
        ·rw [if_pos c13] at H
         have c13b0 : ((rd l0 (ji9)) == (rd l1 (ji11))) = true := beq_iff_eq.mpr c13
         have c13b1 : ((rd l0 (ji9)) != (rd l1 (ji11))) = false := bne_eq_false_iff_eq.mpr c13
         clear c13
         have H' := Aside0.mk H
         clear H
         have p102 : 0 ≤ ((ji9) : Int) := of_decide_eq_true (by first | (with_reducible assumption) | assumption)
         have q102 : (ji9) < (l0.length : Int) := of_decide_eq_true (by first | (with_reducible assumption) | assumption)
         obtain ⟨ad102, e102, hx102_0⟩ := Kd.at_int HR0.out (ji9) p102 q102
         cases e102
         replace p102 := eq_true p102
         replace q102 := eq_true q102
         have p103 : 0 ≤ ((ji11) : Int) := of_decide_eq_true (by first | (with_reducible assumption) | assumption)
         have q103 : (ji11) < (l1.length : Int) := of_decide_eq_true (by first | (with_reducible assumption) | assumption)
         obtain ⟨ad103, e103, hx103_0⟩ := Kd.at_int HR1.out (ji11) p103 q103
         cases e103
         replace p103 := eq_true p103
         replace q103 := eq_true q103
         go_wp2
         repeat (go_quiet (fail); try go_wp2)
         go_roundg k1
         case measure => have := HK1.out; omega
         case rel => exact ⟨(wrap64 (x9_1 + 1)), (by first | rfl | (simp; done) | (simp [*]; done)), H', ⟨by have := HK1.out; omega⟩, by repeat (first | exact Drawn0.refl _ | apply Drawn0.step)⟩
        ·rw [if_neg c13] at H
         have c13b0 : ((rd l0 (ji9)) == (rd l1 (ji11))) = false := beq_eq_false_iff_ne.mpr c13
         have c13b1 : ((rd l0 (ji9)) != (rd l1 (ji11))) = true := bne_iff_ne.mpr c13
         obtain rfl := Option.some.inj H
         have p102 : 0 ≤ ((ji9) : Int) := of_decide_eq_true (by first | (with_reducible assumption) | assumption)
         have q102 : (ji9) < (l0.length : Int) := of_decide_eq_true (by first | (with_reducible assumption) | assumption)
         obtain ⟨ad102, e102, hx102_0⟩ := Kd.at_int HR0.out (ji9) p102 q102
         cases e102
         replace p102 := eq_true p102
         replace q102 := eq_true q102
         have p103 : 0 ≤ ((ji11) : Int) := of_decide_eq_true (by first | (with_reducible assumption) | assumption)
         have q103 : (ji11) < (l1.length : Int) := of_decide_eq_true (by first | (with_reducible assumption) | assumption)
         obtain ⟨ad103, e103, hx103_0⟩ := Kd.at_int HR1.out (ji11) p103 q103
         cases e103
         replace p103 := eq_true p103
         replace q103 := eq_true q103
         go_wp2
         repeat (go_quiet (fail); try go_wp2)
         go_ret
         exact ⟨by first | rfl | (simp; done) | (simp only [← hji9, ← hji11] <;> (first | rfl | simp)) | (simp [*]; done), by repeat (first | exact Drawn0.refl _ | apply Drawn0.step)⟩
       ·rw [if_neg c12] at H
        exact absurd H (by simp)
      ·rw [if_neg c10] at H
       exact absurd H (by simp)
     ·rw [if_neg c8] at H
      have c8b0 : decide ((wrap64 (a3 + x9_1)) < (l1.length : Int)) = false := decide_eq_false c8
      clear c8
      obtain rfl := Option.some.inj H
      go_wp2
      repeat (go_quiet (fail); try go_wp2)
      go_ret
      exact ⟨by first | rfl | (simp; done) | (simp [*]; done), by repeat (first | exact Drawn0.refl _ | apply Drawn0.step)⟩
    ·rw [if_neg c7] at H
     have c7b0 : decide ((wrap64 (a2 + x9_1)) < (l0.length : Int)) = false := decide_eq_false c7
     clear c7
     obtain rfl := Option.some.inj H
     go_wp2
     repeat (go_quiet (fail); try go_wp2)
     go_ret
     exact ⟨by first | rfl | (simp; done) | (simp [*]; done), by repeat (first | exact Drawn0.refl _ | apply Drawn0.step)⟩
 ·replace c6 := Bool.eq_false_iff.mpr c6
  subst c6
  have H1 : (some 0) = some r := by rw [if_neg (show ¬ (false = true) by decide)] at H; exact H
  clear H
  have H := H1
  clear H1
  obtain rfl := Option.some.inj H
  go_enter Try.func9, Try.ntmps9
  go_wp2_with (first | (go_at_call 18; (with_reducible refine (snake_within.calls _ _ l0 _ _ l1 a2 a3 false _ ?side1 ?side2 ?side3 ?side4 A5.out).mono ?_); (case side1 => repeat (first | exact HR0.out | (with_reducible refine Kd.C_alloc ?_ _) | (with_reducible refine Kd.C_drewN ?_ _) | (with_reducible refine Kd.C_drew ?_))); (case side2 => exact HC0.out); (case side3 => repeat (first | exact HR1.out | (with_reducible refine Kd.C_alloc ?_ _) | (with_reducible refine Kd.C_drewN ?_ _) | (with_reducible refine Kd.C_drew ?_))); (case side4 => exact HC1.out); rintro e w' ⟨rfl, ⟨nd, rfl⟩⟩; (try first | exact ⟨rfl, _, World.drewN_drewN _ _ _⟩ | exact ⟨rfl, _, Eq.trans (World.drewN_drewN _ _ _) (congrArg (World.drewN _) (Nat.add_assoc _ _ _))⟩)))
  repeat (go_quiet (first | (go_at_call 18; (with_reducible refine (snake_within.calls _ _ l0 _ _ l1 a2 a3 false _ ?side1 ?side2 ?side3 ?side4 A5.out).mono ?_); (case side1 => repeat (first | exact HR0.out | (with_reducible refine Kd.C_alloc ?_ _) | (with_reducible refine Kd.C_drewN ?_ _) | (with_reducible refine Kd.C_drew ?_))); (case side2 => exact HC0.out); (case side3 => repeat (first | exact HR1.out | (with_reducible refine Kd.C_alloc ?_ _) | (with_reducible refine Kd.C_drewN ?_ _) | (with_reducible refine Kd.C_drew ?_))); (case side4 => exact HC1.out); rintro e w' ⟨rfl, ⟨nd, rfl⟩⟩; (try first | exact ⟨rfl, _, World.drewN_drewN _ _ _⟩ | exact ⟨rfl, _, Eq.trans (World.drewN_drewN _ _ _) (congrArg (World.drewN _) (Nat.add_assoc _ _ _))⟩))); try go_wp2_with (first | (go_at_call 18; (with_reducible refine (snake_within.calls _ _ l0 _ _ l1 a2 a3 false _ ?side1 ?side2 ?side3 ?side4 A5.out).mono ?_); (case side1 => repeat (first | exact HR0.out | (with_reducible refine Kd.C_alloc ?_ _) | (with_reducible refine Kd.C_drewN ?_ _) | (with_reducible refine Kd.C_drew ?_))); (case side2 => exact HC0.out); (case side3 => repeat (first | exact HR1.out | (with_reducible refine Kd.C_alloc ?_ _) | (with_reducible refine Kd.C_drewN ?_ _) | (with_reducible refine Kd.C_drew ?_))); (case side4 => exact HC1.out); rintro e w' ⟨rfl, ⟨nd, rfl⟩⟩; (try first | exact ⟨rfl, _, World.drewN_drewN _ _ _⟩ | exact ⟨rfl, _, Eq.trans (World.drewN_drewN _ _ _) (congrArg (World.drewN _) (Nat.add_assoc _ _ _))⟩))))
  go_ret
  exact ⟨by first | rfl | (simp; done) | (simp [*]; done), by repeat (first | exact Drawn0.refl _ | apply Drawn0.step)⟩

/-! ### snake_Up: function 10 -/
def snake_Up.l0 : Nat → List Int → List Int → Int → Int → Int → Option (Int)
 | 0, _, _, _, _, _ => none
 | k + 1, x0, x1, x2, x3, x9 => if x9 < x2 then (if x9 < x3 then (if 0 ≤ (wrap64 ((wrap64 (x2 - 1)) - x9)) then (if (wrap64 ((wrap64 (x2 - 1)) - x9)) < (x0.length : Int) then (if 0 ≤ (wrap64 ((wrap64 (x3 - 1)) - x9)) then (if (wrap64 ((wrap64 (x3 - 1)) - x9)) < (x1.length : Int) then (if (rd x0 (wrap64 ((wrap64 (x2 - 1)) - x9))) = (rd x1 (wrap64 ((wrap64 (x3 - 1)) - x9))) then (snake_Up.l0 k x0 x1 x2 x3 (wrap64 (x9 + 1))) else (some x9)) else (none)) else (none)) else (none)) else (none)) else (some x9)) else (some x9)
def snake_Up.f (k : Nat) (l0 : List Int) (l1 : List Int) (a2 : Int) (a3 : Int) : Option (Int) := (snake_within.f l0 l1 a2 a3).bind fun t104 => (if t104 = true then (snake_Up.l0 k l0 l1 a2 a3 0) else (some 0))
theorem snake_Up.mono_l : ∀ k, (∀ y0 y1 y2 y3 y4, LeO (snake_Up.l0 k y0 y1 y2 y3 y4) (snake_Up.l0 (k + 1) y0 y1 y2 y3 y4))
 | 0 => fun _ _ _ _ _ r h => by simp [snake_Up.l0] at h
 | k + 1 => by
  have ih0 := snake_Up.mono_l k
  ·intro y0 y1 y2 y3 y4
   unfold snake_Up.l0
   repeat' first
   | (with_reducible exact ih0 _ _ _ _ _)
   | (with_reducible exact LeO.refl _)
   | (with_reducible exact LeO.none _)
   | (with_reducible refine LeO.ite ?_ ?_)
   | (with_reducible refine LeO.bind ?_ (fun _ => ?_))
   | exact ih0 _ _ _ _ _
   | exact LeO.none _
   | refine LeO.ite ?_ ?_
   | refine LeO.bind ?_ (fun _ => ?_)
theorem snake_Up.mono : ∀ a0 a1 a2 a3 k, LeO (snake_Up.f k a0 a1 a2 a3) (snake_Up.f (k + 1) a0 a1 a2 a3) := by
 intro a0 a1 a2 a3 k
 have ih0 := snake_Up.mono_l k
 unfold snake_Up.f
 repeat' first
   | (with_reducible exact ih0 _ _ _ _ _)
   | (with_reducible exact LeO.refl _)
   | (with_reducible exact LeO.none _)
   | (with_reducible refine LeO.ite ?_ ?_)
   | (with_reducible refine LeO.bind ?_ (fun _ => ?_))
   | exact ih0 _ _ _ _ _
   | exact LeO.none _
   | refine LeO.ite ?_ ?_
   | refine LeO.bind ?_ (fun _ => ?_)
set_option maxHeartbeats 8000000 in
set_option maxRecDepth 100000 in
theorem snake_Up.calls (k : Nat) (A0 : Option Addr) (c0 : Nat) (l0 : List Int) (A1 : Option Addr) (c1 : Nat) (l1 : List Int) (a2 : Int) (a3 : Int) (r : Int) (w : World) (hr0 : Kd.C (Kd.int .i64) w A0 l0.length l0) (hc0 : l0.length ≤ c0) (hr1 : Kd.C (Kd.int .i64) w A1 l1.length l1) (hc1 : l1.length ≤ c1) (h : snake_Up.f k l0 l1 a2 a3 = some r) :
  Calls Try.prog 10 #[.slice A0 l0.length c0, .slice A1 l1.length c1, .int .i64 a2, .int .i64 a3] w fun e w' => e = .returned (.int .i64 r) ∧ Drawn0 w w' := by
 have HR0 := Aside0.mk hr0
 have HC0 := Aside0.mk hc0
 clear hr0 hc0
 have HR1 := Aside0.mk hr1
 have HC1 := Aside0.mk hc1
 clear hr1 hc1
 have H : ((snake_within.f l0 l1 a2 a3).bind fun t104 => (if t104 = true then (snake_Up.l0 k l0 l1 a2 a3 0) else (some 0))) = some r := h
 clear h
 replace H := Option.bind_eq_some_iff.mp H
 obtain ⟨t104, A50, H⟩ := H
 replace H : (if t104 = true then (snake_Up.l0 k l0 l1 a2 a3 0) else (some 0)) = some r := H
 have A5 := Aside0.mk A50
 clear A50
 by_cases c6 : t104 = true
 ·subst c6
  have H1 : (snake_Up.l0 k l0 l1 a2 a3 0) = some r := by rw [if_pos rfl] at H; exact H
  clear H
  have H := H1
  clear H1
  have H' := Aside0.mk H
  clear H
  go_enter Try.func10, Try.ntmps10
  go_wp2_with (first | (go_at_call 18; (with_reducible refine (snake_within.calls _ _ l0 _ _ l1 a2 a3 true _ ?side1 ?side2 ?side3 ?side4 A5.out).mono ?_); (case side1 => repeat (first | exact HR0.out | (with_reducible refine Kd.C_alloc ?_ _) | (with_reducible refine Kd.C_drewN ?_ _) | (with_reducible refine Kd.C_drew ?_))); (case side2 => exact HC0.out); (case side3 => repeat (first | exact HR1.out | (with_reducible refine Kd.C_alloc ?_ _) | (with_reducible refine Kd.C_drewN ?_ _) | (with_reducible refine Kd.C_drew ?_))); (case side4 => exact HC1.out); rintro e w' ⟨rfl, ⟨nd, rfl⟩⟩; (try first | exact ⟨rfl, _, World.drewN_drewN _ _ _⟩ | exact ⟨rfl, _, Eq.trans (World.drewN_drewN _ _ _) (congrArg (World.drewN _) (Nat.add_assoc _ _ _))⟩)))
  repeat (go_quiet (first | (go_at_call 18; (with_reducible refine (snake_within.calls _ _ l0 _ _ l1 a2 a3 true _ ?side1 ?side2 ?side3 ?side4 A5.out).mono ?_); (case side1 => repeat (first | exact HR0.out | (with_reducible refine Kd.C_alloc ?_ _) | (with_reducible refine Kd.C_drewN ?_ _) | (with_reducible refine Kd.C_drew ?_))); (case side2 => exact HC0.out); (case side3 => repeat (first | exact HR1.out | (with_reducible refine Kd.C_alloc ?_ _) | (with_reducible refine Kd.C_drewN ?_ _) | (with_reducible refine Kd.C_drew ?_))); (case side4 => exact HC1.out); rintro e w' ⟨rfl, ⟨nd, rfl⟩⟩; (try first | exact ⟨rfl, _, World.drewN_drewN _ _ _⟩ | exact ⟨rfl, _, Eq.trans (World.drewN_drewN _ _ _) (congrArg (World.drewN _) (Nat.add_assoc _ _ _))⟩))); try go_wp2_with (first | (go_at_call 18; (with_reducible refine (snake_within.calls _ _ l0 _ _ l1 a2 a3 true _ ?side1 ?side2 ?side3 ?side4 A5.out).mono ?_); (case side1 => repeat (first | exact HR0.out | (with_reducible refine Kd.C_alloc ?_ _) | (with_reducible refine Kd.C_drewN ?_ _) | (with_reducible refine Kd.C_drew ?_))); (case side2 => exact HC0.out); (case side3 => repeat (first | exact HR1.out | (with_reducible refine Kd.C_alloc ?_ _) | (with_reducible refine Kd.C_drewN ?_ _) | (with_reducible refine Kd.C_drew ?_))); (case side4 => exact HC1.out); rintro e w' ⟨rfl, ⟨nd, rfl⟩⟩; (try first | exact ⟨rfl, _, World.drewN_drewN _ _ _⟩ | exact ⟨rfl, _, Eq.trans (World.drewN_drewN _ _ _) (congrArg (World.drewN _) (Nat.add_assoc _ _ _))⟩))))
  go_loopg [9] k (fun kq v9 w' => ∃ (x9_1 : Int), v9 = .int .i64 x9_1 ∧ Aside0 (snake_Up.l0 kq l0 l1 a2 a3 x9_1 = some r) ∧ Aside0 (kq ≤ k) ∧ Drawn0 w w')
  case atStart => exact ⟨(0), (by first | rfl | (simp; done) | (simp [*]; done)), H', ⟨Nat.le_refl _⟩, by repeat (first | exact Drawn0.refl _ | apply Drawn0.step)⟩
  case round =>
   clear H'
   try clear c1
   try clear p2
   try clear c6
   obtain ⟨x9_1, rfl, HA, HK1, ⟨m1, rfl⟩⟩ := hrel
   cases gk with
   | zero => exact absurd HA.out (by simp [snake_Up.l0])
   | succ k1 =>
    have H := HA.out
    clear HA
    simp only [snake_Up.l0] at H
    by_cases c7 : x9_1 < a2
    ·rw [if_pos c7] at H
     have c7b0 : decide (x9_1 < a2) = true := decide_eq_true c7
     clear c7
     by_cases c8 : x9_1 < a3
     ·rw [if_pos c8] at H
      have c8b0 : decide (x9_1 < a3) = true := decide_eq_true c8
      clear c8
      obtain ⟨ji9, hji9⟩ : ∃ j_ : Int, (wrap64 ((wrap64 (a2 - 1)) - x9_1)) = j_ := ⟨_, rfl⟩
      replace H : (if 0 ≤ (ji9) then (if (ji9) < (l0.length : Int) then (if 0 ≤ (wrap64 ((wrap64 (a3 - 1)) - x9_1)) then (if (wrap64 ((wrap64 (a3 - 1)) - x9_1)) < (l1.length : Int) then (if (rd l0 (ji9)) = (rd l1 (wrap64 ((wrap64 (a3 - 1)) - x9_1))) then (snake_Up.l0 k1 l0 l1 a2 a3 (wrap64 (x9_1 + 1))) else (some x9_1)) else (none)) else (none)) else (none)) else (none)) = some r := by first | (rw [hji9] at H; exact H) | (simp only [hji9] at H ⊢; exact H)
      have hji9w : (IntKind.i64.wrap ((wrap64 (a2 - 1)) - x9_1)) = ji9 := (i64_w _).trans hji9
      by_cases c10 : 0 ≤ (ji9)
      ·rw [if_pos c10] at H
       have c10b0 : decide (0 ≤ (ji9)) = true := decide_eq_true c10
       clear c10
       by_cases c11 : (ji9) < (l0.length : Int)
       ·rw [if_pos c11] at H
        have c11b0 : decide ((ji9) < (l0.length : Int)) = true := decide_eq_true c11
        clear c11
        obtain ⟨ji12, hji12⟩ : ∃ j_ : Int, (wrap64 ((wrap64 (a3 - 1)) - x9_1)) = j_ := ⟨_, rfl⟩
        replace H : (if 0 ≤ (ji12) then (if (ji12) < (l1.length : Int) then (if (rd l0 (ji9)) = (rd l1 (ji12)) then (snake_Up.l0 k1 l0 l1 a2 a3 (wrap64 (x9_1 + 1))) else (some x9_1)) else (none)) else (none)) = some r := by first | (rw [hji12] at H; exact H) | (simp only [hji12] at H ⊢; exact H)
        have hji12w : (IntKind.i64.wrap ((wrap64 (a3 - 1)) - x9_1)) = ji12 := (i64_w _).trans hji12
        by_cases c13 : 0 ≤ (ji12)
        ·rw [if_pos c13] at H
         have c13b0 : decide (0 ≤ (ji12)) = true := decide_eq_true c13
         clear c13
         by_cases c14 : (ji12) < (l1.length : Int)
         ·rw [if_pos c14] at H
          have c14b0 : decide ((ji12) < (l1.length : Int)) = true := decide_eq_true c14
          clear c14
          by_cases c15 : (rd l0 (ji9)) = (rd l1 (ji12))
          ·rw [if_pos c15] at H
           have c15b0 : ((rd l0 (ji9)) == (rd l1 (ji12))) = true := beq_iff_eq.mpr c15
           have c15b1 : ((rd l0 (ji9)) != (rd l1 (ji12))) = false := bne_eq_false_iff_eq.mpr c15
           clear c15
           have H' := Aside0.mk H
           clear H
           have p105 : 0 ≤ ((ji9) : Int) := of_decide_eq_true (by first | (with_reducible assumption) | assumption)
           have q105 : (ji9) < (l0.length : Int) := of_decide_eq_true (by first | (with_reducible assumption) | assumption)
           obtain ⟨ad105, e105, hx105_0⟩ := Kd.at_int HR0.out (ji9) p105 q105
           cases e105
           replace p105 := eq_true p105
           replace q105 := eq_true q105
           have p106 : 0 ≤ ((ji12) : Int) := of_decide_eq_true (by first | (with_reducible assumption) | assumption)
           have q106 : (ji12) < (l1.length : Int) := of_decide_eq_true (by first | (with_reducible assumption) | assumption)
           obtain ⟨ad106, e106, hx106_0⟩ := Kd.at_int HR1.out (ji12) p106 q106
           cases e106
           replace p106 := eq_true p106
           replace q106 := eq_true q106
           go_wp2
           repeat (go_quiet (fail); try go_wp2)
           go_roundg k1
           case measure => have := HK1.out; omega
           case rel => exact ⟨(wrap64 (x9_1 + 1)), (by first | rfl | (simp; done) | (simp [*]; done)), H', ⟨by have := HK1.out; omega⟩, by repeat (first | exact Drawn0.refl _ | apply Drawn0.step)⟩
          ·rw [if_neg c15] at H
           have c15b0 : ((rd l0 (ji9)) == (rd l1 (ji12))) = false := beq_eq_false_iff_ne.mpr c15
           have c15b1 : ((rd l0 (ji9)) != (rd l1 (ji12))) = true := bne_iff_ne.mpr c15
           obtain rfl := Option.some.inj H
           have p105 : 0 ≤ ((ji9) : Int) := of_decide_eq_true (by first | (with_reducible assumption) | assumption)
           have q105 : (ji9) < (l0.length : Int) := of_decide_eq_true (by first | (with_reducible assumption) | assumption)
           obtain ⟨ad105, e105, hx105_0⟩ := Kd.at_int HR0.out (ji9) p105 q105
           cases e105
           replace p105 := eq_true p105
           replace q105 := eq_true q105
           have p106 : 0 ≤ ((ji12) : Int) := of_decide_eq_true (by first | (with_reducible assumption) | assumption)
           have q106 : (ji12) < (l1.length : Int) := of_decide_eq_true (by first | (with_reducible assumption) | assumption)
           obtain ⟨ad106, e106, hx106_0⟩ := Kd.at_int HR1.out (ji12) p106 q106
           cases e106
           replace p106 := eq_true p106
           replace q106 := eq_true q106
           go_wp2
           repeat (go_quiet (fail); try go_wp2)
           go_ret
           exact ⟨by first | rfl | (simp; done) | (simp only [← hji9, ← hji12] <;> (first | rfl | simp)) | (simp [*]; done), by repeat (first | exact Drawn0.refl _ | apply Drawn0.step)⟩
         ·rw [if_neg c14] at H
          exact absurd H (by simp)
        ·rw [if_neg c13] at H
         exact absurd H (by simp)
       ·rw [if_neg c11] at H
        exact absurd H (by simp)
      ·rw [if_neg c10] at H
       exact absurd H (by simp)
     ·rw [if_neg c8] at H
      have c8b0 : decide (x9_1 < a3) = false := decide_eq_false c8
      clear c8
      obtain rfl := Option.some.inj H
      go_wp2
      repeat (go_quiet (fail); try go_wp2)
      go_ret
      exact ⟨by first | rfl | (simp; done) | (simp [*]; done), by repeat (first | exact Drawn0.refl _ | apply Drawn0.step)⟩
    ·rw [if_neg c7] at H
     have c7b0 : decide (x9_1 < a2) = false := decide_eq_false c7
     clear c7
     obtain rfl := Option.some.inj H
     go_wp2
     repeat (go_quiet (fail); try go_wp2)
     go_ret
     exact ⟨by first | rfl | (simp; done) | (simp [*]; done), by repeat (first | exact Drawn0.refl _ | apply Drawn0.step)⟩
 ·replace c6 := Bool.eq_false_iff.mpr c6
  subst c6
  have H1 : (some 0) = some r := by rw [if_neg (show ¬ (false = true) by decide)] at H; exact H
  clear H
  have H := H1
  clear H1
  obtain rfl := Option.some.inj H
  go_enter Try.func10, Try.ntmps10
  go_wp2_with (first | (go_at_call 18; (with_reducible refine (snake_within.calls _ _ l0 _ _ l1 a2 a3 false _ ?side1 ?side2 ?side3 ?side4 A5.out).mono ?_); (case side1 => repeat (first | exact HR0.out | (with_reducible refine Kd.C_alloc ?_ _) | (with_reducible refine Kd.C_drewN ?_ _) | (with_reducible refine Kd.C_drew ?_))); (case side2 => exact HC0.out); (case side3 => repeat (first | exact HR1.out | (with_reducible refine Kd.C_alloc ?_ _) | (with_reducible refine Kd.C_drewN ?_ _) | (with_reducible refine Kd.C_drew ?_))); (case side4 => exact HC1.out); rintro e w' ⟨rfl, ⟨nd, rfl⟩⟩; (try first | exact ⟨rfl, _, World.drewN_drewN _ _ _⟩ | exact ⟨rfl, _, Eq.trans (World.drewN_drewN _ _ _) (congrArg (World.drewN _) (Nat.add_assoc _ _ _))⟩)))
  repeat (go_quiet (first | (go_at_call 18; (with_reducible refine (snake_within.calls _ _ l0 _ _ l1 a2 a3 false _ ?side1 ?side2 ?side3 ?side4 A5.out).mono ?_); (case side1 => repeat (first | exact HR0.out | (with_reducible refine Kd.C_alloc ?_ _) | (with_reducible refine Kd.C_drewN ?_ _) | (with_reducible refine Kd.C_drew ?_))); (case side2 => exact HC0.out); (case side3 => repeat (first | exact HR1.out | (with_reducible refine Kd.C_alloc ?_ _) | (with_reducible refine Kd.C_drewN ?_ _) | (with_reducible refine Kd.C_drew ?_))); (case side4 => exact HC1.out); rintro e w' ⟨rfl, ⟨nd, rfl⟩⟩; (try first | exact ⟨rfl, _, World.drewN_drewN _ _ _⟩ | exact ⟨rfl, _, Eq.trans (World.drewN_drewN _ _ _) (congrArg (World.drewN _) (Nat.add_assoc _ _ _))⟩))); try go_wp2_with (first | (go_at_call 18; (with_reducible refine (snake_within.calls _ _ l0 _ _ l1 a2 a3 false _ ?side1 ?side2 ?side3 ?side4 A5.out).mono ?_); (case side1 => repeat (first | exact HR0.out | (with_reducible refine Kd.C_alloc ?_ _) | (with_reducible refine Kd.C_drewN ?_ _) | (with_reducible refine Kd.C_drew ?_))); (case side2 => exact HC0.out); (case side3 => repeat (first | exact HR1.out | (with_reducible refine Kd.C_alloc ?_ _) | (with_reducible refine Kd.C_drewN ?_ _) | (with_reducible refine Kd.C_drew ?_))); (case side4 => exact HC1.out); rintro e w' ⟨rfl, ⟨nd, rfl⟩⟩; (try first | exact ⟨rfl, _, World.drewN_drewN _ _ _⟩ | exact ⟨rfl, _, Eq.trans (World.drewN_drewN _ _ _) (congrArg (World.drewN _) (Nat.add_assoc _ _ _))⟩))))
  go_ret
  exact ⟨by first | rfl | (simp; done) | (simp [*]; done), by repeat (first | exact Drawn0.refl _ | apply Drawn0.step)⟩

/-! ### snake_Slide: function 11 -/
def snake_Slide.f (k : Nat) (l0 : List Int) (l1 : List Int) (a2 : Int) (a3 : Int) : Option (Int) := if a3 < 0 then (some (-1)) else (if a3 > (l1.length : Int) then (some (-1)) else (if a2 > a3 then (some (-1)) else (if a2 < (wrap64 (a3 - (l0.length : Int))) then (some (-1)) else ((snake_Down.f k l0 l1 (wrap64 (a3 - a2)) a3).bind fun t107 => (some (wrap64 (a3 + t107)))))))
theorem snake_Slide.mono : ∀ a0 a1 a2 a3 k, LeO (snake_Slide.f k a0 a1 a2 a3) (snake_Slide.f (k + 1) a0 a1 a2 a3) := by
 intro a0 a1 a2 a3 k
 unfold snake_Slide.f
 repeat' first
   | (with_reducible exact snake_Down.mono _ _ _ _ _)
   | (with_reducible exact LeO.refl _)
   | (with_reducible exact LeO.none _)
   | (with_reducible refine LeO.ite ?_ ?_)
   | (with_reducible refine LeO.bind ?_ (fun _ => ?_))
   | exact snake_Down.mono _ _ _ _ _
   | exact LeO.none _
   | refine LeO.ite ?_ ?_
   | refine LeO.bind ?_ (fun _ => ?_)
set_option maxHeartbeats 8000000 in
set_option maxRecDepth 100000 in
theorem snake_Slide.calls (k : Nat) (A0 : Option Addr) (c0 : Nat) (l0 : List Int) (A1 : Option Addr) (c1 : Nat) (l1 : List Int) (a2 : Int) (a3 : Int) (r : Int) (w : World) (hr0 : Kd.C (Kd.int .i64) w A0 l0.length l0) (hc0 : l0.length ≤ c0) (hr1 : Kd.C (Kd.int .i64) w A1 l1.length l1) (hc1 : l1.length ≤ c1) (h : snake_Slide.f k l0 l1 a2 a3 = some r) :
  Calls Try.prog 11 #[.slice A0 l0.length c0, .slice A1 l1.length c1, .int .i64 a2, .int .i64 a3] w fun e w' => e = .returned (.int .i64 r) ∧ Drawn0 w w' := by
 have HR0 := Aside0.mk hr0
 have HC0 := Aside0.mk hc0
 clear hr0 hc0
 have HR1 := Aside0.mk hr1
 have HC1 := Aside0.mk hc1
 clear hr1 hc1
 have H : (if a3 < 0 then (some (-1)) else (if a3 > (l1.length : Int) then (some (-1)) else (if a2 > a3 then (some (-1)) else (if a2 < (wrap64 (a3 - (l0.length : Int))) then (some (-1)) else ((snake_Down.f k l0 l1 (wrap64 (a3 - a2)) a3).bind fun t107 => (some (wrap64 (a3 + t107)))))))) = some r := h
 clear h
 by_cases c5 : a3 < 0
 ·rw [if_pos c5] at H
  have c5b0 : decide (a3 < 0) = true := decide_eq_true c5
  clear c5
  obtain rfl := Option.some.inj H
  go_enter Try.func11, Try.ntmps11
  go_wp2
  go_ret
  exact ⟨by first | rfl | (simp; done) | (simp [*]; done), by repeat (first | exact Drawn0.refl _ | apply Drawn0.step)⟩
 ·rw [if_neg c5] at H
  have c5b0 : decide (a3 < 0) = false := decide_eq_false c5
  clear c5
  by_cases c6 : a3 > (l1.length : Int)
  ·rw [if_pos c6] at H
   have c6b0 : decide ((l1.length : Int) < a3) = true := decide_eq_true c6
   clear c6
   obtain rfl := Option.some.inj H
   go_enter Try.func11, Try.ntmps11
   go_wp2
   go_ret
   exact ⟨by first | rfl | (simp; done) | (simp [*]; done), by repeat (first | exact Drawn0.refl _ | apply Drawn0.step)⟩
  ·rw [if_neg c6] at H
   have c6b0 : decide ((l1.length : Int) < a3) = false := decide_eq_false c6
   clear c6
   by_cases c7 : a2 > a3
   ·rw [if_pos c7] at H
    have c7b0 : decide (a3 < a2) = true := decide_eq_true c7
    clear c7
    obtain rfl := Option.some.inj H
    go_enter Try.func11, Try.ntmps11
    go_wp2
    go_ret
    exact ⟨by first | rfl | (simp; done) | (simp [*]; done), by repeat (first | exact Drawn0.refl _ | apply Drawn0.step)⟩
   ·rw [if_neg c7] at H
    have c7b0 : decide (a3 < a2) = false := decide_eq_false c7
    clear c7
    by_cases c8 : a2 < (wrap64 (a3 - (l0.length : Int)))
    ·rw [if_pos c8] at H
     have c8b0 : decide (a2 < (wrap64 (a3 - (l0.length : Int)))) = true := decide_eq_true c8
     clear c8
     obtain rfl := Option.some.inj H
     go_enter Try.func11, Try.ntmps11
     go_wp2
     go_ret
     exact ⟨by first | rfl | (simp; done) | (simp [*]; done), by repeat (first | exact Drawn0.refl _ | apply Drawn0.step)⟩
    ·rw [if_neg c8] at H
     have c8b0 : decide (a2 < (wrap64 (a3 - (l0.length : Int)))) = false := decide_eq_false c8
     clear c8
     replace H := Option.bind_eq_some_iff.mp H
     obtain ⟨t107, A90, H⟩ := H
     replace H : (some (wrap64 (a3 + t107))) = some r := H
     have A9 := Aside0.mk A90
     clear A90
     obtain rfl := Option.some.inj H
     go_enter Try.func11, Try.ntmps11
     go_wp2_with (first | ((first | (with_reducible refine gate_callee (f := 9) rfl ?_); refine goesL_ (some 37) rfl rfl Try.func9 (by kernel_rfl) rfl #[.slice A0 l0.length c0, .slice A1 l1.length c1, .int .i64 (wrap64 (a3 - a2)), .int .i64 a3] rfl (by (try simp only [List.map_toArray, List.map_cons, List.map_nil]); first | done | rfl | (simp only [List.length_drop, List.length_take]; rfl)) ?_ | go_at_call 9); (with_reducible refine (snake_Down.calls k _ _ l0 _ _ l1 (wrap64 (a3 - a2)) a3 t107 _ ?side1 ?side2 ?side3 ?side4 A9.out).mono ?_); (case side1 => repeat (first | exact HR0.out | (with_reducible refine Kd.C_alloc ?_ _) | (with_reducible refine Kd.C_drewN ?_ _) | (with_reducible refine Kd.C_drew ?_))); (case side2 => exact HC0.out); (case side3 => repeat (first | exact HR1.out | (with_reducible refine Kd.C_alloc ?_ _) | (with_reducible refine Kd.C_drewN ?_ _) | (with_reducible refine Kd.C_drew ?_))); (case side4 => exact HC1.out); rintro e w' ⟨rfl, ⟨nd, rfl⟩⟩; (try refine ⟨_, rfl, ?_⟩)))
     go_ret
     exact ⟨by first | rfl | (simp; done) | (simp [*]; done), by repeat (first | exact Drawn0.refl _ | apply Drawn0.step)⟩

/-! ### tattinglaw17_awake: function 8 -/
def tattinglaw17_awake.f (k : Nat)  : Option (Bool) := (some (([1, 2, 3] : List Int) : List Int)).bind fun y108 => ((some (([2, 3, 4] : List Int) : List Int)).bind fun y111 => ((snake_Down.f k y108 y111 1 0).bind fun t114 => (if t114 = 2 then ((snake_Up.f k y108 y111 3 2).bind fun t115 => (if t115 = 2 then ((snake_Slide.f k y108 y111 (-1) 0).bind fun t116 => (some (t116 == 2))) else (some false))) else (some false))))
theorem tattinglaw17_awake.mono : ∀ k, LeO (tattinglaw17_awake.f k ) (tattinglaw17_awake.f (k + 1) ) := by
 intro  k
 unfold tattinglaw17_awake.f
 repeat' first
   | (with_reducible exact snake_Down.mono _ _ _ _ _)
   | (with_reducible exact snake_Slide.mono _ _ _ _ _)
   | (with_reducible exact snake_Up.mono _ _ _ _ _)
   | (with_reducible exact LeO.refl _)
   | (with_reducible exact LeO.none _)
   | (with_reducible refine LeO.ite ?_ ?_)
   | (with_reducible refine LeO.bind ?_ (fun _ => ?_))
   | exact snake_Down.mono _ _ _ _ _
   | exact snake_Slide.mono _ _ _ _ _
   | exact snake_Up.mono _ _ _ _ _
   | exact LeO.none _
   | refine LeO.ite ?_ ?_
   | refine LeO.bind ?_ (fun _ => ?_)
set_option maxHeartbeats 8000000 in
set_option maxRecDepth 100000 in
theorem tattinglaw17_awake.calls (k : Nat)  (r : Bool) (w : World) (h : tattinglaw17_awake.f k  = some r) (hr_ : r = true) :
  Calls Try.prog 8 #[] w fun e w' => e = .returned (.bool r) ∧ Below w.heap.size w w' := by
 have HB := Aside0.mk (Below.refl w.heap.size w)
 have H : ((some (([1, 2, 3] : List Int) : List Int)).bind fun y108 => ((some (([2, 3, 4] : List Int) : List Int)).bind fun y111 => ((snake_Down.f k y108 y111 1 0).bind fun t114 => (if t114 = 2 then ((snake_Up.f k y108 y111 3 2).bind fun t115 => (if t115 = 2 then ((snake_Slide.f k y108 y111 (-1) 0).bind fun t116 => (some (t116 == 2))) else (some false))) else (some false))))) = some r := h
 clear h
 obtain ⟨y108, hy108⟩ : ∃ y_ : List Int, y_ = (([1, 2, 3] : List Int)) := ⟨_, rfl⟩
 replace H : ((some (([2, 3, 4] : List Int) : List Int)).bind fun y111 => ((snake_Down.f k y108 y111 1 0).bind fun t114 => (if t114 = 2 then ((snake_Up.f k y108 y111 3 2).bind fun t115 => (if t115 = 2 then ((snake_Slide.f k y108 y111 (-1) 0).bind fun t116 => (some (t116 == 2))) else (some false))) else (some false)))) = some r := by first | (rw [hy108]; with_reducible exact H) | (have H2_ := (Option.bind_some _ _).symm.trans H; rw [hy108]; with_reducible exact H2_) | (have H2_ := (Option.bind_some _ _).symm.trans H; with_reducible exact H2_) | with_reducible exact H | (rw [hy108]; exact H) | exact H
 have Ny108 := Aside0.mk hy108
 clear hy108
 obtain ⟨y111, hy111⟩ : ∃ y_ : List Int, y_ = (([2, 3, 4] : List Int)) := ⟨_, rfl⟩
 replace H : ((snake_Down.f k y108 y111 1 0).bind fun t114 => (if t114 = 2 then ((snake_Up.f k y108 y111 3 2).bind fun t115 => (if t115 = 2 then ((snake_Slide.f k y108 y111 (-1) 0).bind fun t116 => (some (t116 == 2))) else (some false))) else (some false))) = some r := by first | (rw [hy111]; with_reducible exact H) | (have H2_ := (Option.bind_some _ _).symm.trans H; rw [hy111]; with_reducible exact H2_) | (have H2_ := (Option.bind_some _ _).symm.trans H; with_reducible exact H2_) | with_reducible exact H | (rw [hy111]; exact H) | exact H
 have Ny111 := Aside0.mk hy111
 clear hy111
 replace H := Option.bind_eq_some_iff.mp H
 obtain ⟨t114, A10, H⟩ := H
 replace H : (if t114 = 2 then ((snake_Up.f k y108 y111 3 2).bind fun t115 => (if t115 = 2 then ((snake_Slide.f k y108 y111 (-1) 0).bind fun t116 => (some (t116 == 2))) else (some false))) else (some false)) = some r := H
 have A1 := Aside0.mk A10
 clear A10
 by_cases c2 : t114 = 2
 ·rw [if_pos c2] at H
  have c2b0 : (t114 == 2) = true := beq_iff_eq.mpr c2
  have c2b1 : (t114 != 2) = false := bne_eq_false_iff_eq.mpr c2
  clear c2
  replace H := Option.bind_eq_some_iff.mp H
  obtain ⟨t115, A30, H⟩ := H
  replace H : (if t115 = 2 then ((snake_Slide.f k y108 y111 (-1) 0).bind fun t116 => (some (t116 == 2))) else (some false)) = some r := H
  have A3 := Aside0.mk A30
  clear A30
  by_cases c4 : t115 = 2
  ·rw [if_pos c4] at H
   have c4b0 : (t115 == 2) = true := beq_iff_eq.mpr c4
   have c4b1 : (t115 != 2) = false := bne_eq_false_iff_eq.mpr c4
   clear c4
   replace H := Option.bind_eq_some_iff.mp H
   obtain ⟨t116, A50, H⟩ := H
   replace H : (some (t116 == 2)) = some r := H
   have A5 := Aside0.mk A50
   clear A50
   obtain rfl := Option.some.inj H
   go_enter Try.func8, Try.ntmps8
   go_wp2_with (first | ((with_reducible refine gate_dst (N := 3) rfl ?_); refine Kd.R_lit (Kd.int .i64) _ 3 ?hg (N := 3) ?hd (xs := ([1, 2, 3] : List Int)) (inner := [.int .i64 1, .int .i64 2, .int .i64 3]) (ok := fun _ => True) (okp := fun _ => True) ?hr ?hp (fun _ hk => hk) trivial (Below.refl _ _) (Nat.le_refl _) (by simp) ?_; (case hd => rfl); (case hg => rfl); (case hr => first | (go_simp; done) | (go_simp; rfl)); (case hp => exact (Reps.one (show Kd.M (Kd.int .i64) _ _ _ 1 [.int .i64 1] from rfl) (Reps.one (show Kd.M (Kd.int .i64) _ _ _ 2 [.int .i64 2] from rfl) (Reps.one (show Kd.M (Kd.int .i64) _ _ _ 3 [.int .i64 3] from rfl) (Reps.none _ _))))); intro v109 w6 ho7 hb hg_ hnew_; (try clear hg_); (try clear hnew_); (first | rw [← Ny108.out] at ho7 | (simp only [Int.reduceToNat] at ho7; rw [← Ny108.out] at ho7)); have n0_ := Aside0.mk (Kd.R_lower ho7 (below_size (by repeat (first | (with_reducible first | exact HB.out | apply below_alloc | apply pw_below_drewN | apply below_drew1) | exact HB.out)))); have n1_ := Aside0.mk (below_step (by repeat (first | (with_reducible first | exact HB.out | apply below_alloc | apply pw_below_drewN | apply below_drew1) | exact HB.out)) hb); clear HB; have HO110 := n0_; have HB := n1_; clear n0_ n1_; (try clear hb); (try clear ho7)) | ((with_reducible refine gate_dst (N := 4) rfl ?_); refine Kd.R_lit (Kd.int .i64) _ 3 ?hg (N := 4) ?hd (xs := ([2, 3, 4] : List Int)) (inner := [.int .i64 2, .int .i64 3, .int .i64 4]) (ok := fun _ => True) (okp := fun _ => True) ?hr ?hp (fun _ hk => hk) trivial (Below.refl _ _) (Nat.le_refl _) (by simp) ?_; (case hd => rfl); (case hg => rfl); (case hr => first | (go_simp; done) | (go_simp; rfl)); (case hp => exact (Reps.one (show Kd.M (Kd.int .i64) _ _ _ 2 [.int .i64 2] from rfl) (Reps.one (show Kd.M (Kd.int .i64) _ _ _ 3 [.int .i64 3] from rfl) (Reps.one (show Kd.M (Kd.int .i64) _ _ _ 4 [.int .i64 4] from rfl) (Reps.none _ _))))); intro v112 w8 ho9 hb hg_ hnew_; (try clear hg_); (try clear hnew_); (first | rw [← Ny111.out] at ho9 | (simp only [Int.reduceToNat] at ho9; rw [← Ny111.out] at ho9)); have n0_ := Aside0.mk (Kd.R_elder' (by (with_reducible repeat (first | apply Kd.R_alloc | apply Kd.R_drewN | apply Kd.R_drew)); exact HO110.out) (Kd.R_base ho9) hb); have n1_ := Aside0.mk (Kd.R_lower (Kd.R_new' ho9 (Kd.R_lt (by (with_reducible repeat (first | apply Kd.R_alloc | apply Kd.R_drewN | apply Kd.R_drew)); exact HO110.out))) (below_size (by repeat (first | (with_reducible first | exact HB.out | apply below_alloc | apply pw_below_drewN | apply below_drew1) | exact HB.out)))); have n2_ := Aside0.mk (below_step (by repeat (first | (with_reducible first | exact HB.out | apply below_alloc | apply pw_below_drewN | apply below_drew1) | exact HB.out)) hb); clear HO110; clear HB; have HO110 := n0_; have HO113 := n1_; have HB := n2_; clear n0_ n1_ n2_; (try clear hb); (try clear ho9); obtain ⟨Ao10, co10, eo10⟩ := Kd.R_slice HO110.out; subst eo10; obtain ⟨Ao11, co11, eo11⟩ := Kd.R_slice HO113.out; subst eo11) | ((first | (with_reducible refine gate_callee (f := 9) rfl ?_); refine goesL_ (some 7) rfl rfl Try.func9 (by kernel_rfl) rfl #[.slice Ao10 y108.length co10, .slice Ao11 y111.length co11, .int .i64 1, .int .i64 0] rfl (by (try simp only [List.map_toArray, List.map_cons, List.map_nil]); first | done | rfl | (simp only [List.length_drop, List.length_take]; rfl)) ?_ | go_at_call 9); (with_reducible refine (snake_Down.calls k _ _ y108 _ _ y111 1 0 t114 _ ?side1 ?side2 ?side3 ?side4 A1.out).mono ?_); (case side1 => repeat (first | exact (Kd.R_reads' HO110.out).2.2 | (with_reducible refine Kd.C_alloc ?_ _) | (with_reducible refine Kd.C_drewN ?_ _) | (with_reducible refine Kd.C_drew ?_))); (case side2 => exact (Kd.R_reads' HO110.out).2.1); (case side3 => repeat (first | exact (Kd.R_reads' HO113.out).2.2 | (with_reducible refine Kd.C_alloc ?_ _) | (with_reducible refine Kd.C_drewN ?_ _) | (with_reducible refine Kd.C_drew ?_))); (case side4 => exact (Kd.R_reads' HO113.out).2.1); rintro e w' ⟨rfl, ⟨nd, rfl⟩⟩; (try refine ⟨_, rfl, ?_⟩)) | (go_at_call 10; (with_reducible refine (snake_Up.calls k _ _ y108 _ _ y111 3 2 t115 _ ?side1 ?side2 ?side3 ?side4 A3.out).mono ?_); (case side1 => repeat (first | exact (Kd.R_reads' HO110.out).2.2 | (with_reducible refine Kd.C_alloc ?_ _) | (with_reducible refine Kd.C_drewN ?_ _) | (with_reducible refine Kd.C_drew ?_))); (case side2 => exact (Kd.R_reads' HO110.out).2.1); (case side3 => repeat (first | exact (Kd.R_reads' HO113.out).2.2 | (with_reducible refine Kd.C_alloc ?_ _) | (with_reducible refine Kd.C_drewN ?_ _) | (with_reducible refine Kd.C_drew ?_))); (case side4 => exact (Kd.R_reads' HO113.out).2.1); rintro e w' ⟨rfl, ⟨nd, rfl⟩⟩) | (go_at_call 11; (with_reducible refine (snake_Slide.calls k _ _ y108 _ _ y111 (-1) 0 t116 _ ?side1 ?side2 ?side3 ?side4 A5.out).mono ?_); (case side1 => repeat (first | exact (Kd.R_reads' HO110.out).2.2 | (with_reducible refine Kd.C_alloc ?_ _) | (with_reducible refine Kd.C_drewN ?_ _) | (with_reducible refine Kd.C_drew ?_))); (case side2 => exact (Kd.R_reads' HO110.out).2.1); (case side3 => repeat (first | exact (Kd.R_reads' HO113.out).2.2 | (with_reducible refine Kd.C_alloc ?_ _) | (with_reducible refine Kd.C_drewN ?_ _) | (with_reducible refine Kd.C_drew ?_))); (case side4 => exact (Kd.R_reads' HO113.out).2.1); rintro e w' ⟨rfl, ⟨nd, rfl⟩⟩))
   go_ret
   exact ⟨by first | rfl | (simp [errW_none, errW_some] <;> rfl) | (simp [*, errW_none, errW_some] <;> rfl), by repeat (first | (with_reducible first | exact HB.out | apply below_alloc | apply pw_below_drewN | apply below_drew1) | exact HB.out)⟩
  ·rw [if_neg c4] at H
   have c4b0 : (t115 == 2) = false := beq_eq_false_iff_ne.mpr c4
   have c4b1 : (t115 != 2) = true := bne_iff_ne.mpr c4
   exact absurd (Option.some.inj H) (by rw [hr_]; decide)
 ·rw [if_neg c2] at H
  have c2b0 : (t114 == 2) = false := beq_eq_false_iff_ne.mpr c2
  have c2b1 : (t114 != 2) = true := bne_iff_ne.mpr c2
  exact absurd (Option.some.inj H) (by rw [hr_]; decide)

/-! ### tattinglaw17_SnakeKnown: function 3 -/
def tattinglaw17_SnakeKnown.f (k : Nat)  : Option (Bool) := (some (([5, 5] : List Int) : List Int)).bind fun y117 => ((tattinglaw17_awake.f k).bind fun t120 => (if t120 = true then ((snake_Down.f k y117 y117 (-1) 0).bind fun t121 => (if t121 = 0 then ((snake_Down.f k y117 y117 3 0).bind fun t122 => (if t122 = 0 then ((snake_Down.f k y117 y117 2 2).bind fun t123 => (if t123 = 0 then ((snake_Down.f k y117 y117 0 1).bind fun t124 => (if t124 = 1 then ((snake_Up.f k y117 y117 0 0).bind fun t125 => (if t125 = 0 then ((snake_Up.f k y117 y117 2 1).bind fun t126 => (if t126 = 1 then ((snake_Up.f k y117 y117 2 3).bind fun t127 => (if t127 = 0 then ((snake_Slide.f k y117 y117 0 3).bind fun t128 => (if t128 = (-1) then ((snake_Slide.f k y117 y117 3 2).bind fun t129 => (if t129 = (-1) then ((snake_Slide.f k y117 y117 (-9223372036854775808) 0).bind fun t130 => (if t130 = (-1) then ((snake_Slide.f k y117 y117 2 2).bind fun t131 => (if t131 = 2 then ((snake_Slide.f k ([] : List Int) ([] : List Int) 0 0).bind fun t132 => (some (t132 == 0))) else (some false))) else (some false))) else (some false))) else (some false))) else (some false))) else (some false))) else (some false))) else (some false))) else (some false))) else (some false))) else (some false))) else (some false)))
theorem tattinglaw17_SnakeKnown.mono : ∀ k, LeO (tattinglaw17_SnakeKnown.f k ) (tattinglaw17_SnakeKnown.f (k + 1) ) := by
 intro  k
 unfold tattinglaw17_SnakeKnown.f
 repeat' first
   | (with_reducible exact snake_Down.mono _ _ _ _ _)
   | (with_reducible exact snake_Slide.mono _ _ _ _ _)
   | (with_reducible exact snake_Up.mono _ _ _ _ _)
   | (with_reducible exact tattinglaw17_awake.mono _)
   | (with_reducible exact LeO.refl _)
   | (with_reducible exact LeO.none _)
   | (with_reducible refine LeO.ite ?_ ?_)
   | (with_reducible refine LeO.bind ?_ (fun _ => ?_))
   | exact snake_Down.mono _ _ _ _ _
   | exact snake_Slide.mono _ _ _ _ _
   | exact snake_Up.mono _ _ _ _ _
   | exact tattinglaw17_awake.mono _
   | exact LeO.none _
   | refine LeO.ite ?_ ?_
   | refine LeO.bind ?_ (fun _ => ?_)
set_option maxHeartbeats 8000000 in
set_option maxRecDepth 100000 in
theorem tattinglaw17_SnakeKnown.calls (k : Nat)  (r : Bool) (w : World) (h : tattinglaw17_SnakeKnown.f k  = some r) (hr_ : r = true) :
  Calls Try.prog 3 #[] w fun e w' => e = .returned (.bool r) ∧ Below w.heap.size w w' := by
 have HB := Aside0.mk (Below.refl w.heap.size w)
 have H : ((some (([5, 5] : List Int) : List Int)).bind fun y117 => ((tattinglaw17_awake.f k).bind fun t120 => (if t120 = true then ((snake_Down.f k y117 y117 (-1) 0).bind fun t121 => (if t121 = 0 then ((snake_Down.f k y117 y117 3 0).bind fun t122 => (if t122 = 0 then ((snake_Down.f k y117 y117 2 2).bind fun t123 => (if t123 = 0 then ((snake_Down.f k y117 y117 0 1).bind fun t124 => (if t124 = 1 then ((snake_Up.f k y117 y117 0 0).bind fun t125 => (if t125 = 0 then ((snake_Up.f k y117 y117 2 1).bind fun t126 => (if t126 = 1 then ((snake_Up.f k y117 y117 2 3).bind fun t127 => (if t127 = 0 then ((snake_Slide.f k y117 y117 0 3).bind fun t128 => (if t128 = (-1) then ((snake_Slide.f k y117 y117 3 2).bind fun t129 => (if t129 = (-1) then ((snake_Slide.f k y117 y117 (-9223372036854775808) 0).bind fun t130 => (if t130 = (-1) then ((snake_Slide.f k y117 y117 2 2).bind fun t131 => (if t131 = 2 then ((snake_Slide.f k ([] : List Int) ([] : List Int) 0 0).bind fun t132 => (some (t132 == 0))) else (some false))) else (some false))) else (some false))) else (some false))) else (some false))) else (some false))) else (some false))) else (some false))) else (some false))) else (some false))) else (some false))) else (some false)))) = some r := h
 clear h
 obtain ⟨y117, hy117⟩ : ∃ y_ : List Int, y_ = (([5, 5] : List Int)) := ⟨_, rfl⟩
 replace H : ((tattinglaw17_awake.f k).bind fun t120 => (if t120 = true then ((snake_Down.f k y117 y117 (-1) 0).bind fun t121 => (if t121 = 0 then ((snake_Down.f k y117 y117 3 0).bind fun t122 => (if t122 = 0 then ((snake_Down.f k y117 y117 2 2).bind fun t123 => (if t123 = 0 then ((snake_Down.f k y117 y117 0 1).bind fun t124 => (if t124 = 1 then ((snake_Up.f k y117 y117 0 0).bind fun t125 => (if t125 = 0 then ((snake_Up.f k y117 y117 2 1).bind fun t126 => (if t126 = 1 then ((snake_Up.f k y117 y117 2 3).bind fun t127 => (if t127 = 0 then ((snake_Slide.f k y117 y117 0 3).bind fun t128 => (if t128 = (-1) then ((snake_Slide.f k y117 y117 3 2).bind fun t129 => (if t129 = (-1) then ((snake_Slide.f k y117 y117 (-9223372036854775808) 0).bind fun t130 => (if t130 = (-1) then ((snake_Slide.f k y117 y117 2 2).bind fun t131 => (if t131 = 2 then ((snake_Slide.f k ([] : List Int) ([] : List Int) 0 0).bind fun t132 => (some (t132 == 0))) else (some false))) else (some false))) else (some false))) else (some false))) else (some false))) else (some false))) else (some false))) else (some false))) else (some false))) else (some false))) else (some false))) else (some false))) = some r := by first | (rw [hy117]; with_reducible exact H) | (have H2_ := (Option.bind_some _ _).symm.trans H; rw [hy117]; with_reducible exact H2_) | (have H2_ := (Option.bind_some _ _).symm.trans H; with_reducible exact H2_) | with_reducible exact H | (rw [hy117]; exact H) | exact H
 have Ny117 := Aside0.mk hy117
 clear hy117
 replace H := Option.bind_eq_some_iff.mp H
 obtain ⟨t120, A10, H⟩ := H
 replace H : (if t120 = true then ((snake_Down.f k y117 y117 (-1) 0).bind fun t121 => (if t121 = 0 then ((snake_Down.f k y117 y117 3 0).bind fun t122 => (if t122 = 0 then ((snake_Down.f k y117 y117 2 2).bind fun t123 => (if t123 = 0 then ((snake_Down.f k y117 y117 0 1).bind fun t124 => (if t124 = 1 then ((snake_Up.f k y117 y117 0 0).bind fun t125 => (if t125 = 0 then ((snake_Up.f k y117 y117 2 1).bind fun t126 => (if t126 = 1 then ((snake_Up.f k y117 y117 2 3).bind fun t127 => (if t127 = 0 then ((snake_Slide.f k y117 y117 0 3).bind fun t128 => (if t128 = (-1) then ((snake_Slide.f k y117 y117 3 2).bind fun t129 => (if t129 = (-1) then ((snake_Slide.f k y117 y117 (-9223372036854775808) 0).bind fun t130 => (if t130 = (-1) then ((snake_Slide.f k y117 y117 2 2).bind fun t131 => (if t131 = 2 then ((snake_Slide.f k ([] : List Int) ([] : List Int) 0 0).bind fun t132 => (some (t132 == 0))) else (some false))) else (some false))) else (some false))) else (some false))) else (some false))) else (some false))) else (some false))) else (some false))) else (some false))) else (some false))) else (some false))) else (some false)) = some r := H
 have A1 := Aside0.mk A10
 clear A10
 by_cases c2 : t120 = true
 ·subst c2
  have H1 : ((snake_Down.f k y117 y117 (-1) 0).bind fun t121 => (if t121 = 0 then ((snake_Down.f k y117 y117 3 0).bind fun t122 => (if t122 = 0 then ((snake_Down.f k y117 y117 2 2).bind fun t123 => (if t123 = 0 then ((snake_Down.f k y117 y117 0 1).bind fun t124 => (if t124 = 1 then ((snake_Up.f k y117 y117 0 0).bind fun t125 => (if t125 = 0 then ((snake_Up.f k y117 y117 2 1).bind fun t126 => (if t126 = 1 then ((snake_Up.f k y117 y117 2 3).bind fun t127 => (if t127 = 0 then ((snake_Slide.f k y117 y117 0 3).bind fun t128 => (if t128 = (-1) then ((snake_Slide.f k y117 y117 3 2).bind fun t129 => (if t129 = (-1) then ((snake_Slide.f k y117 y117 (-9223372036854775808) 0).bind fun t130 => (if t130 = (-1) then ((snake_Slide.f k y117 y117 2 2).bind fun t131 => (if t131 = 2 then ((snake_Slide.f k ([] : List Int) ([] : List Int) 0 0).bind fun t132 => (some (t132 == 0))) else (some false))) else (some false))) else (some false))) else (some false))) else (some false))) else (some false))) else (some false))) else (some false))) else (some false))) else (some false))) else (some false))) = some r := by rw [if_pos rfl] at H; exact H
  clear H
  have H := H1
  clear H1
  replace H := Option.bind_eq_some_iff.mp H
  obtain ⟨t121, A30, H⟩ := H
  replace H : (if t121 = 0 then ((snake_Down.f k y117 y117 3 0).bind fun t122 => (if t122 = 0 then ((snake_Down.f k y117 y117 2 2).bind fun t123 => (if t123 = 0 then ((snake_Down.f k y117 y117 0 1).bind fun t124 => (if t124 = 1 then ((snake_Up.f k y117 y117 0 0).bind fun t125 => (if t125 = 0 then ((snake_Up.f k y117 y117 2 1).bind fun t126 => (if t126 = 1 then ((snake_Up.f k y117 y117 2 3).bind fun t127 => (if t127 = 0 then ((snake_Slide.f k y117 y117 0 3).bind fun t128 => (if t128 = (-1) then ((snake_Slide.f k y117 y117 3 2).bind fun t129 => (if t129 = (-1) then ((snake_Slide.f k y117 y117 (-9223372036854775808) 0).bind fun t130 => (if t130 = (-1) then ((snake_Slide.f k y117 y117 2 2).bind fun t131 => (if t131 = 2 then ((snake_Slide.f k ([] : List Int) ([] : List Int) 0 0).bind fun t132 => (some (t132 == 0))) else (some false))) else (some false))) else (some false))) else (some false))) else (some false))) else (some false))) else (some false))) else (some false))) else (some false))) else (some false))) else (some false)) = some r := H
  have A3 := Aside0.mk A30
  clear A30
  by_cases c4 : t121 = 0
  ·rw [if_pos c4] at H
   have c4b0 : (t121 == 0) = true := beq_iff_eq.mpr c4
   have c4b1 : (t121 != 0) = false := bne_eq_false_iff_eq.mpr c4
   clear c4
   replace H := Option.bind_eq_some_iff.mp H
   obtain ⟨t122, A50, H⟩ := H
   replace H : (if t122 = 0 then ((snake_Down.f k y117 y117 2 2).bind fun t123 => (if t123 = 0 then ((snake_Down.f k y117 y117 0 1).bind fun t124 => (if t124 = 1 then ((snake_Up.f k y117 y117 0 0).bind fun t125 => (if t125 = 0 then ((snake_Up.f k y117 y117 2 1).bind fun t126 => (if t126 = 1 then ((snake_Up.f k y117 y117 2 3).bind fun t127 => (if t127 = 0 then ((snake_Slide.f k y117 y117 0 3).bind fun t128 => (if t128 = (-1) then ((snake_Slide.f k y117 y117 3 2).bind fun t129 => (if t129 = (-1) then ((snake_Slide.f k y117 y117 (-9223372036854775808) 0).bind fun t130 => (if t130 = (-1) then ((snake_Slide.f k y117 y117 2 2).bind fun t131 => (if t131 = 2 then ((snake_Slide.f k ([] : List Int) ([] : List Int) 0 0).bind fun t132 => (some (t132 == 0))) else (some false))) else (some false))) else (some false))) else (some false))) else (some false))) else (some false))) else (some false))) else (some false))) else (some false))) else (some false)) = some r := H
   have A5 := Aside0.mk A50
   clear A50
   by_cases c6 : t122 = 0
   ·rw [if_pos c6] at H
    have c6b0 : (t122 == 0) = true := beq_iff_eq.mpr c6
    have c6b1 : (t122 != 0) = false := bne_eq_false_iff_eq.mpr c6
    clear c6
    replace H := Option.bind_eq_some_iff.mp H
    obtain ⟨t123, A70, H⟩ := H
    replace H : (if t123 = 0 then ((snake_Down.f k y117 y117 0 1).bind fun t124 => (if t124 = 1 then ((snake_Up.f k y117 y117 0 0).bind fun t125 => (if t125 = 0 then ((snake_Up.f k y117 y117 2 1).bind fun t126 => (if t126 = 1 then ((snake_Up.f k y117 y117 2 3).bind fun t127 => (if t127 = 0 then ((snake_Slide.f k y117 y117 0 3).bind fun t128 => (if t128 = (-1) then ((snake_Slide.f k y117 y117 3 2).bind fun t129 => (if t129 = (-1) then ((snake_Slide.f k y117 y117 (-9223372036854775808) 0).bind fun t130 => (if t130 = (-1) then ((snake_Slide.f k y117 y117 2 2).bind fun t131 => (if t131 = 2 then ((snake_Slide.f k ([] : List Int) ([] : List Int) 0 0).bind fun t132 => (some (t132 == 0))) else (some false))) else (some false))) else (some false))) else (some false))) else (some false))) else (some false))) else (some false))) else (some false))) else (some false)) = some r := H
    have A7 := Aside0.mk A70
    clear A70
    by_cases c8 : t123 = 0
    ·rw [if_pos c8] at H
     have c8b0 : (t123 == 0) = true := beq_iff_eq.mpr c8
     have c8b1 : (t123 != 0) = false := bne_eq_false_iff_eq.mpr c8
     clear c8
     replace H := Option.bind_eq_some_iff.mp H
     obtain ⟨t124, A90, H⟩ := H
     replace H : (if t124 = 1 then ((snake_Up.f k y117 y117 0 0).bind fun t125 => (if t125 = 0 then ((snake_Up.f k y117 y117 2 1).bind fun t126 => (if t126 = 1 then ((snake_Up.f k y117 y117 2 3).bind fun t127 => (if t127 = 0 then ((snake_Slide.f k y117 y117 0 3).bind fun t128 => (if t128 = (-1) then ((snake_Slide.f k y117 y117 3 2).bind fun t129 => (if t129 = (-1) then ((snake_Slide.f k y117 y117 (-9223372036854775808) 0).bind fun t130 => (if t130 = (-1) then ((snake_Slide.f k y117 y117 2 2).bind fun t131 => (if t131 = 2 then ((snake_Slide.f k ([] : List Int) ([] : List Int) 0 0).bind fun t132 => (some (t132 == 0))) else (some false))) else (some false))) else (some false))) else (some false))) else (some false))) else (some false))) else (some false))) else (some false)) = some r := H
     have A9 := Aside0.mk A90
     clear A90
     by_cases c10 : t124 = 1
     ·rw [if_pos c10] at H
      have c10b0 : (t124 == 1) = true := beq_iff_eq.mpr c10
      have c10b1 : (t124 != 1) = false := bne_eq_false_iff_eq.mpr c10
      clear c10
      replace H := Option.bind_eq_some_iff.mp H
      obtain ⟨t125, A110, H⟩ := H
      replace H : (if t125 = 0 then ((snake_Up.f k y117 y117 2 1).bind fun t126 => (if t126 = 1 then ((snake_Up.f k y117 y117 2 3).bind fun t127 => (if t127 = 0 then ((snake_Slide.f k y117 y117 0 3).bind fun t128 => (if t128 = (-1) then ((snake_Slide.f k y117 y117 3 2).bind fun t129 => (if t129 = (-1) then ((snake_Slide.f k y117 y117 (-9223372036854775808) 0).bind fun t130 => (if t130 = (-1) then ((snake_Slide.f k y117 y117 2 2).bind fun t131 => (if t131 = 2 then ((snake_Slide.f k ([] : List Int) ([] : List Int) 0 0).bind fun t132 => (some (t132 == 0))) else (some false))) else (some false))) else (some false))) else (some false))) else (some false))) else (some false))) else (some false)) = some r := H
      have A11 := Aside0.mk A110
      clear A110
      by_cases c12 : t125 = 0
      ·rw [if_pos c12] at H
       have c12b0 : (t125 == 0) = true := beq_iff_eq.mpr c12
       have c12b1 : (t125 != 0) = false := bne_eq_false_iff_eq.mpr c12
       clear c12
       replace H := Option.bind_eq_some_iff.mp H
       obtain ⟨t126, A130, H⟩ := H
       replace H : (if t126 = 1 then ((snake_Up.f k y117 y117 2 3).bind fun t127 => (if t127 = 0 then ((snake_Slide.f k y117 y117 0 3).bind fun t128 => (if t128 = (-1) then ((snake_Slide.f k y117 y117 3 2).bind fun t129 => (if t129 = (-1) then ((snake_Slide.f k y117 y117 (-9223372036854775808) 0).bind fun t130 => (if t130 = (-1) then ((snake_Slide.f k y117 y117 2 2).bind fun t131 => (if t131 = 2 then ((snake_Slide.f k ([] : List Int) ([] : List Int) 0 0).bind fun t132 => (some (t132 == 0))) else (some false))) else (some false))) else (some false))) else (some false))) else (some false))) else (some false)) = some r := H
       have A13 := Aside0.mk A130
       clear A130
       by_cases c14 : t126 = 1
       ·rw [if_pos c14] at H
        have c14b0 : (t126 == 1) = true := beq_iff_eq.mpr c14
        have c14b1 : (t126 != 1) = false := bne_eq_false_iff_eq.mpr c14
        clear c14
        replace H := Option.bind_eq_some_iff.mp H
        obtain ⟨t127, A150, H⟩ := H
        replace H : (if t127 = 0 then ((snake_Slide.f k y117 y117 0 3).bind fun t128 => (if t128 = (-1) then ((snake_Slide.f k y117 y117 3 2).bind fun t129 => (if t129 = (-1) then ((snake_Slide.f k y117 y117 (-9223372036854775808) 0).bind fun t130 => (if t130 = (-1) then ((snake_Slide.f k y117 y117 2 2).bind fun t131 => (if t131 = 2 then ((snake_Slide.f k ([] : List Int) ([] : List Int) 0 0).bind fun t132 => (some (t132 == 0))) else (some false))) else (some false))) else (some false))) else (some false))) else (some false)) = some r := H
        have A15 := Aside0.mk A150
        clear A150
        by_cases c16 : t127 = 0
        ·rw [if_pos c16] at H
         have c16b0 : (t127 == 0) = true := beq_iff_eq.mpr c16
         have c16b1 : (t127 != 0) = false := bne_eq_false_iff_eq.mpr c16
         clear c16
         replace H := Option.bind_eq_some_iff.mp H
         obtain ⟨t128, A170, H⟩ := H
         replace H : (if t128 = (-1) then ((snake_Slide.f k y117 y117 3 2).bind fun t129 => (if t129 = (-1) then ((snake_Slide.f k y117 y117 (-9223372036854775808) 0).bind fun t130 => (if t130 = (-1) then ((snake_Slide.f k y117 y117 2 2).bind fun t131 => (if t131 = 2 then ((snake_Slide.f k ([] : List Int) ([] : List Int) 0 0).bind fun t132 => (some (t132 == 0))) else (some false))) else (some false))) else (some false))) else (some false)) = some r := H
         have A17 := Aside0.mk A170
         clear A170
         by_cases c18 : t128 = (-1)
         ·rw [if_pos c18] at H
          have c18b0 : (t128 == (-1)) = true := beq_iff_eq.mpr c18
          have c18b1 : (t128 != (-1)) = false := bne_eq_false_iff_eq.mpr c18
          clear c18
          replace H := Option.bind_eq_some_iff.mp H
          obtain ⟨t129, A190, H⟩ := H
          replace H : (if t129 = (-1) then ((snake_Slide.f k y117 y117 (-9223372036854775808) 0).bind fun t130 => (if t130 = (-1) then ((snake_Slide.f k y117 y117 2 2).bind fun t131 => (if t131 = 2 then ((snake_Slide.f k ([] : List Int) ([] : List Int) 0 0).bind fun t132 => (some (t132 == 0))) else (some false))) else (some false))) else (some false)) = some r := H
          have A19 := Aside0.mk A190
          clear A190
          by_cases c20 : t129 = (-1)
          ·rw [if_pos c20] at H
           have c20b0 : (t129 == (-1)) = true := beq_iff_eq.mpr c20
           have c20b1 : (t129 != (-1)) = false := bne_eq_false_iff_eq.mpr c20
           clear c20
           replace H := Option.bind_eq_some_iff.mp H
           obtain ⟨t130, A210, H⟩ := H
           replace H : (if t130 = (-1) then ((snake_Slide.f k y117 y117 2 2).bind fun t131 => (if t131 = 2 then ((snake_Slide.f k ([] : List Int) ([] : List Int) 0 0).bind fun t132 => (some (t132 == 0))) else (some false))) else (some false)) = some r := H
           have A21 := Aside0.mk A210
           clear A210
           by_cases c22 : t130 = (-1)
           ·rw [if_pos c22] at H
            have c22b0 : (t130 == (-1)) = true := beq_iff_eq.mpr c22
            have c22b1 : (t130 != (-1)) = false := bne_eq_false_iff_eq.mpr c22
            clear c22
            replace H := Option.bind_eq_some_iff.mp H
            obtain ⟨t131, A230, H⟩ := H
            replace H : (if t131 = 2 then ((snake_Slide.f k ([] : List Int) ([] : List Int) 0 0).bind fun t132 => (some (t132 == 0))) else (some false)) = some r := H
            have A23 := Aside0.mk A230
            clear A230
            by_cases c24 : t131 = 2
            ·rw [if_pos c24] at H
             have c24b0 : (t131 == 2) = true := beq_iff_eq.mpr c24
             have c24b1 : (t131 != 2) = false := bne_eq_false_iff_eq.mpr c24
             clear c24
             replace H := Option.bind_eq_some_iff.mp H
             obtain ⟨t132, A250, H⟩ := H
             replace H : (some (t132 == 0)) = some r := H
             have A25 := Aside0.mk A250
             clear A250
             obtain rfl := Option.some.inj H
             go_enter Try.func3, Try.ntmps3
             go_wp2_with (first | ((with_reducible refine gate_dst (N := 2) rfl ?_); refine Kd.R_lit (Kd.int .i64) _ 3 ?hg (N := 2) ?hd (xs := ([5, 5] : List Int)) (inner := [.int .i64 5, .int .i64 5]) (ok := fun _ => True) (okp := fun _ => True) ?hr ?hp (fun _ hk => hk) trivial (Below.refl _ _) (Nat.le_refl _) (by simp) ?_; (case hd => rfl); (case hg => rfl); (case hr => first | (go_simp; done) | (go_simp; rfl)); (case hp => exact (Reps.one (show Kd.M (Kd.int .i64) _ _ _ 5 [.int .i64 5] from rfl) (Reps.one (show Kd.M (Kd.int .i64) _ _ _ 5 [.int .i64 5] from rfl) (Reps.none _ _)))); intro v118 w26 ho27 hb hg_ hnew_; (try clear hg_); (try clear hnew_); (first | rw [← Ny117.out] at ho27 | (simp only [Int.reduceToNat] at ho27; rw [← Ny117.out] at ho27)); have n0_ := Aside0.mk (Kd.R_lower ho27 (below_size (by repeat (first | (with_reducible first | exact HB.out | apply below_alloc | apply pw_below_drewN | apply below_drew1) | exact HB.out)))); have n1_ := Aside0.mk (below_step (by repeat (first | (with_reducible first | exact HB.out | apply below_alloc | apply pw_below_drewN | apply below_drew1) | exact HB.out)) hb); clear HB; have HO119 := n0_; have HB := n1_; clear n0_ n1_; (try clear hb); (try clear ho27)) | ((first | (with_reducible refine gate_callee (f := 8) rfl ?_); refine goesL_ (some 3) rfl rfl Try.func8 (by kernel_rfl) rfl #[] rfl (by (try simp only [List.map_toArray, List.map_cons, List.map_nil]); first | done | rfl | (simp only [List.length_drop, List.length_take]; rfl)) ?_ | go_at_call 8); (with_reducible refine (tattinglaw17_awake.calls k  true _ A1.out rfl).mono ?_); rintro e w28 ⟨rfl, hb⟩; (try refine ⟨_, rfl, ?_⟩); have n0_ := Aside0.mk (Kd.R_below (by (with_reducible repeat (first | apply Kd.R_alloc | apply Kd.R_drewN | apply Kd.R_drew)); exact HO119.out) hb); have n1_ := Aside0.mk (below_step (by repeat (first | (with_reducible first | exact HB.out | apply below_alloc | apply pw_below_drewN | apply below_drew1) | exact HB.out)) hb); clear HO119; clear HB; have HO119 := n0_; have HB := n1_; clear n0_ n1_; (try clear hb); (try clear hb2); (try clear hk); (try clear hi); obtain ⟨Ao29, co29, eo29⟩ := Kd.R_slice HO119.out; subst eo29) | (go_at_call 9; (with_reducible refine (snake_Down.calls k _ _ y117 _ _ y117 (-1) 0 t121 _ ?side1 ?side2 ?side3 ?side4 A3.out).mono ?_); (case side1 => repeat (first | exact (Kd.R_reads' HO119.out).2.2 | (with_reducible refine Kd.C_alloc ?_ _) | (with_reducible refine Kd.C_drewN ?_ _) | (with_reducible refine Kd.C_drew ?_))); (case side2 => exact (Kd.R_reads' HO119.out).2.1); (case side3 => repeat (first | exact (Kd.R_reads' HO119.out).2.2 | (with_reducible refine Kd.C_alloc ?_ _) | (with_reducible refine Kd.C_drewN ?_ _) | (with_reducible refine Kd.C_drew ?_))); (case side4 => exact (Kd.R_reads' HO119.out).2.1); rintro e w' ⟨rfl, ⟨nd, rfl⟩⟩) | (go_at_call 9; (with_reducible refine (snake_Down.calls k _ _ y117 _ _ y117 3 0 t122 _ ?side1 ?side2 ?side3 ?side4 A5.out).mono ?_); (case side1 => repeat (first | exact (Kd.R_reads' HO119.out).2.2 | (with_reducible refine Kd.C_alloc ?_ _) | (with_reducible refine Kd.C_drewN ?_ _) | (with_reducible refine Kd.C_drew ?_))); (case side2 => exact (Kd.R_reads' HO119.out).2.1); (case side3 => repeat (first | exact (Kd.R_reads' HO119.out).2.2 | (with_reducible refine Kd.C_alloc ?_ _) | (with_reducible refine Kd.C_drewN ?_ _) | (with_reducible refine Kd.C_drew ?_))); (case side4 => exact (Kd.R_reads' HO119.out).2.1); rintro e w' ⟨rfl, ⟨nd, rfl⟩⟩) | (go_at_call 9; (with_reducible refine (snake_Down.calls k _ _ y117 _ _ y117 2 2 t123 _ ?side1 ?side2 ?side3 ?side4 A7.out).mono ?_); (case side1 => repeat (first | exact (Kd.R_reads' HO119.out).2.2 | (with_reducible refine Kd.C_alloc ?_ _) | (with_reducible refine Kd.C_drewN ?_ _) | (with_reducible refine Kd.C_drew ?_))); (case side2 => exact (Kd.R_reads' HO119.out).2.1); (case side3 => repeat (first | exact (Kd.R_reads' HO119.out).2.2 | (with_reducible refine Kd.C_alloc ?_ _) | (with_reducible refine Kd.C_drewN ?_ _) | (with_reducible refine Kd.C_drew ?_))); (case side4 => exact (Kd.R_reads' HO119.out).2.1); rintro e w' ⟨rfl, ⟨nd, rfl⟩⟩) | (go_at_call 9; (with_reducible refine (snake_Down.calls k _ _ y117 _ _ y117 0 1 t124 _ ?side1 ?side2 ?side3 ?side4 A9.out).mono ?_); (case side1 => repeat (first | exact (Kd.R_reads' HO119.out).2.2 | (with_reducible refine Kd.C_alloc ?_ _) | (with_reducible refine Kd.C_drewN ?_ _) | (with_reducible refine Kd.C_drew ?_))); (case side2 => exact (Kd.R_reads' HO119.out).2.1); (case side3 => repeat (first | exact (Kd.R_reads' HO119.out).2.2 | (with_reducible refine Kd.C_alloc ?_ _) | (with_reducible refine Kd.C_drewN ?_ _) | (with_reducible refine Kd.C_drew ?_))); (case side4 => exact (Kd.R_reads' HO119.out).2.1); rintro e w' ⟨rfl, ⟨nd, rfl⟩⟩) | (go_at_call 10; (with_reducible refine (snake_Up.calls k _ _ y117 _ _ y117 0 0 t125 _ ?side1 ?side2 ?side3 ?side4 A11.out).mono ?_); (case side1 => repeat (first | exact (Kd.R_reads' HO119.out).2.2 | (with_reducible refine Kd.C_alloc ?_ _) | (with_reducible refine Kd.C_drewN ?_ _) | (with_reducible refine Kd.C_drew ?_))); (case side2 => exact (Kd.R_reads' HO119.out).2.1); (case side3 => repeat (first | exact (Kd.R_reads' HO119.out).2.2 | (with_reducible refine Kd.C_alloc ?_ _) | (with_reducible refine Kd.C_drewN ?_ _) | (with_reducible refine Kd.C_drew ?_))); (case side4 => exact (Kd.R_reads' HO119.out).2.1); rintro e w' ⟨rfl, ⟨nd, rfl⟩⟩) | (go_at_call 10; (with_reducible refine (snake_Up.calls k _ _ y117 _ _ y117 2 1 t126 _ ?side1 ?side2 ?side3 ?side4 A13.out).mono ?_); (case side1 => repeat (first | exact (Kd.R_reads' HO119.out).2.2 | (with_reducible refine Kd.C_alloc ?_ _) | (with_reducible refine Kd.C_drewN ?_ _) | (with_reducible refine Kd.C_drew ?_))); (case side2 => exact (Kd.R_reads' HO119.out).2.1); (case side3 => repeat (first | exact (Kd.R_reads' HO119.out).2.2 | (with_reducible refine Kd.C_alloc ?_ _) | (with_reducible refine Kd.C_drewN ?_ _) | (with_reducible refine Kd.C_drew ?_))); (case side4 => exact (Kd.R_reads' HO119.out).2.1); rintro e w' ⟨rfl, ⟨nd, rfl⟩⟩) | (go_at_call 10; (with_reducible refine (snake_Up.calls k _ _ y117 _ _ y117 2 3 t127 _ ?side1 ?side2 ?side3 ?side4 A15.out).mono ?_); (case side1 => repeat (first | exact (Kd.R_reads' HO119.out).2.2 | (with_reducible refine Kd.C_alloc ?_ _) | (with_reducible refine Kd.C_drewN ?_ _) | (with_reducible refine Kd.C_drew ?_))); (case side2 => exact (Kd.R_reads' HO119.out).2.1); (case side3 => repeat (first | exact (Kd.R_reads' HO119.out).2.2 | (with_reducible refine Kd.C_alloc ?_ _) | (with_reducible refine Kd.C_drewN ?_ _) | (with_reducible refine Kd.C_drew ?_))); (case side4 => exact (Kd.R_reads' HO119.out).2.1); rintro e w' ⟨rfl, ⟨nd, rfl⟩⟩) | (go_at_call 11; (with_reducible refine (snake_Slide.calls k _ _ y117 _ _ y117 0 3 t128 _ ?side1 ?side2 ?side3 ?side4 A17.out).mono ?_); (case side1 => repeat (first | exact (Kd.R_reads' HO119.out).2.2 | (with_reducible refine Kd.C_alloc ?_ _) | (with_reducible refine Kd.C_drewN ?_ _) | (with_reducible refine Kd.C_drew ?_))); (case side2 => exact (Kd.R_reads' HO119.out).2.1); (case side3 => repeat (first | exact (Kd.R_reads' HO119.out).2.2 | (with_reducible refine Kd.C_alloc ?_ _) | (with_reducible refine Kd.C_drewN ?_ _) | (with_reducible refine Kd.C_drew ?_))); (case side4 => exact (Kd.R_reads' HO119.out).2.1); rintro e w' ⟨rfl, ⟨nd, rfl⟩⟩) | (go_at_call 11; (with_reducible refine (snake_Slide.calls k _ _ y117 _ _ y117 3 2 t129 _ ?side1 ?side2 ?side3 ?side4 A19.out).mono ?_); (case side1 => repeat (first | exact (Kd.R_reads' HO119.out).2.2 | (with_reducible refine Kd.C_alloc ?_ _) | (with_reducible refine Kd.C_drewN ?_ _) | (with_reducible refine Kd.C_drew ?_))); (case side2 => exact (Kd.R_reads' HO119.out).2.1); (case side3 => repeat (first | exact (Kd.R_reads' HO119.out).2.2 | (with_reducible refine Kd.C_alloc ?_ _) | (with_reducible refine Kd.C_drewN ?_ _) | (with_reducible refine Kd.C_drew ?_))); (case side4 => exact (Kd.R_reads' HO119.out).2.1); rintro e w' ⟨rfl, ⟨nd, rfl⟩⟩) | (go_at_call 11; (with_reducible refine (snake_Slide.calls k _ _ y117 _ _ y117 (-9223372036854775808) 0 t130 _ ?side1 ?side2 ?side3 ?side4 A21.out).mono ?_); (case side1 => repeat (first | exact (Kd.R_reads' HO119.out).2.2 | (with_reducible refine Kd.C_alloc ?_ _) | (with_reducible refine Kd.C_drewN ?_ _) | (with_reducible refine Kd.C_drew ?_))); (case side2 => exact (Kd.R_reads' HO119.out).2.1); (case side3 => repeat (first | exact (Kd.R_reads' HO119.out).2.2 | (with_reducible refine Kd.C_alloc ?_ _) | (with_reducible refine Kd.C_drewN ?_ _) | (with_reducible refine Kd.C_drew ?_))); (case side4 => exact (Kd.R_reads' HO119.out).2.1); rintro e w' ⟨rfl, ⟨nd, rfl⟩⟩) | (go_at_call 11; (with_reducible refine (snake_Slide.calls k _ _ y117 _ _ y117 2 2 t131 _ ?side1 ?side2 ?side3 ?side4 A23.out).mono ?_); (case side1 => repeat (first | exact (Kd.R_reads' HO119.out).2.2 | (with_reducible refine Kd.C_alloc ?_ _) | (with_reducible refine Kd.C_drewN ?_ _) | (with_reducible refine Kd.C_drew ?_))); (case side2 => exact (Kd.R_reads' HO119.out).2.1); (case side3 => repeat (first | exact (Kd.R_reads' HO119.out).2.2 | (with_reducible refine Kd.C_alloc ?_ _) | (with_reducible refine Kd.C_drewN ?_ _) | (with_reducible refine Kd.C_drew ?_))); (case side4 => exact (Kd.R_reads' HO119.out).2.1); rintro e w' ⟨rfl, ⟨nd, rfl⟩⟩) | (go_at_call 11; refine calls_of_args (args' := #[.slice none (([] : List Int)).length 0, .slice none (([] : List Int)).length 0, .int .i64 0, .int .i64 0]) (by rfl) ?_; (with_reducible refine (snake_Slide.calls k none 0 ([] : List Int) none 0 ([] : List Int) 0 0 t132 _ ?side1 ?side2 ?side3 ?side4 A25.out).mono ?_); (case side1 => exact Kd.C_nil _ _); (case side2 => exact Nat.le_refl _); (case side3 => exact Kd.C_nil _ _); (case side4 => exact Nat.le_refl _); rintro e w' ⟨rfl, ⟨nd, rfl⟩⟩))
             go_ret
             exact ⟨by first | rfl | (simp [errW_none, errW_some] <;> rfl) | (simp [*, errW_none, errW_some] <;> rfl), by repeat (first | (with_reducible first | exact HB.out | apply below_alloc | apply pw_below_drewN | apply below_drew1) | exact HB.out)⟩
            ·rw [if_neg c24] at H
             have c24b0 : (t131 == 2) = false := beq_eq_false_iff_ne.mpr c24
             have c24b1 : (t131 != 2) = true := bne_iff_ne.mpr c24
             exact absurd (Option.some.inj H) (by rw [hr_]; decide)
           ·rw [if_neg c22] at H
            have c22b0 : (t130 == (-1)) = false := beq_eq_false_iff_ne.mpr c22
            have c22b1 : (t130 != (-1)) = true := bne_iff_ne.mpr c22
            exact absurd (Option.some.inj H) (by rw [hr_]; decide)
          ·rw [if_neg c20] at H
           have c20b0 : (t129 == (-1)) = false := beq_eq_false_iff_ne.mpr c20
           have c20b1 : (t129 != (-1)) = true := bne_iff_ne.mpr c20
           exact absurd (Option.some.inj H) (by rw [hr_]; decide)
         ·rw [if_neg c18] at H
          have c18b0 : (t128 == (-1)) = false := beq_eq_false_iff_ne.mpr c18
          have c18b1 : (t128 != (-1)) = true := bne_iff_ne.mpr c18
          exact absurd (Option.some.inj H) (by rw [hr_]; decide)
        ·rw [if_neg c16] at H
         have c16b0 : (t127 == 0) = false := beq_eq_false_iff_ne.mpr c16
         have c16b1 : (t127 != 0) = true := bne_iff_ne.mpr c16
         exact absurd (Option.some.inj H) (by rw [hr_]; decide)
       ·rw [if_neg c14] at H
        have c14b0 : (t126 == 1) = false := beq_eq_false_iff_ne.mpr c14
        have c14b1 : (t126 != 1) = true := bne_iff_ne.mpr c14
        exact absurd (Option.some.inj H) (by rw [hr_]; decide)
      ·rw [if_neg c12] at H
       have c12b0 : (t125 == 0) = false := beq_eq_false_iff_ne.mpr c12
       have c12b1 : (t125 != 0) = true := bne_iff_ne.mpr c12
       exact absurd (Option.some.inj H) (by rw [hr_]; decide)
     ·rw [if_neg c10] at H
      have c10b0 : (t124 == 1) = false := beq_eq_false_iff_ne.mpr c10
      have c10b1 : (t124 != 1) = true := bne_iff_ne.mpr c10
      exact absurd (Option.some.inj H) (by rw [hr_]; decide)
    ·rw [if_neg c8] at H
     have c8b0 : (t123 == 0) = false := beq_eq_false_iff_ne.mpr c8
     have c8b1 : (t123 != 0) = true := bne_iff_ne.mpr c8
     exact absurd (Option.some.inj H) (by rw [hr_]; decide)
   ·rw [if_neg c6] at H
    have c6b0 : (t122 == 0) = false := beq_eq_false_iff_ne.mpr c6
    have c6b1 : (t122 != 0) = true := bne_iff_ne.mpr c6
    exact absurd (Option.some.inj H) (by rw [hr_]; decide)
  ·rw [if_neg c4] at H
   have c4b0 : (t121 == 0) = false := beq_eq_false_iff_ne.mpr c4
   have c4b1 : (t121 != 0) = true := bne_iff_ne.mpr c4
   exact absurd (Option.some.inj H) (by rw [hr_]; decide)
 ·replace c2 := Bool.eq_false_iff.mpr c2
  subst c2
  have H1 : (some false) = some r := by rw [if_neg (show ¬ (false = true) by decide)] at H; exact H
  clear H
  have H := H1
  clear H1
  exact absurd (Option.some.inj H) (by rw [hr_]; decide)

/-- THE ONE PURE STATEMENT of tattinglaw17_SnakeKnown: yours. -/
def tattinglaw17_SnakeKnown.Pure : Prop := ∃ k, tattinglaw17_SnakeKnown.f k  = some true
theorem tattinglaw17_SnakeKnown.walk (P : tattinglaw17_SnakeKnown.Pure)  (w : World)  :
  Calls Try.prog 3 #[] w fun e w' => e = .returned (.bool true) ∧ Below w.heap.size w w' := by
 obtain ⟨k, h⟩ := P  
 refine (tattinglaw17_SnakeKnown.calls k  true w h rfl).mono ?_
 rintro e w' ⟨rfl, hd⟩
 exact ⟨rfl, hd⟩

end Go.Proofs.Ytnadeebbnnbpgaa.PSnakeKnown
