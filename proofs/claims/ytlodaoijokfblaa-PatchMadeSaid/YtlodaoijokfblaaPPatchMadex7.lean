/- What the given program's functions come to, each a Lean function and the walk that shows it: no condition beside those that each theorem names. -/
import Derived.Test.YtlodaoijokfblaaPPatchMadex0
import Derived.Test.YtlodaoijokfblaaPPatchMadex6
namespace Go.Proofs.Ytlodaoijokfblaa.PPatchMade
open Go.RowKit Go.Proofs.YtlodaoijokfblaaW.PrintWords Go.Proofs.YtlodaoijokfblaaW.PrintLast Go.Proofs.YtlodaoijokfblaaW.PrintMore
attribute [local go_sem] max2_int min2_int max_two min_two max_three min_three max_four min_four   -- for this text's walks alone
set_option linter.unusedVariables false
set_option linter.unusedSimpArgs false

/-! ### tattingref7_first: function 31 -/
mutual
def tattingref7_first.l0 : Nat → List Int → List Int → List (List Int) → Int → Int → Int → Option (Int × Int)
 | 0, _, _, _, _, _, _ => none
 | k + 1, x0, x1, x2, x4, x5, x14 => if x14 < (x0.length : Int) then (tattingref7_first.l1 k x0 x1 x2 x4 x5 x14 x4) else (some ((x0.length : Int), (x1.length : Int)))
def tattingref7_first.l1 : Nat → List Int → List Int → List (List Int) → Int → Int → Int → Int → Option (Int × Int)
 | 0, _, _, _, _, _, _, _ => none
 | k + 1, x0, x1, x2, x4, x5, x14, x15 => if x15 < (x1.length : Int) then (if 0 ≤ x14 then (if x14 < (x0.length : Int) then (if 0 ≤ x15 then (if (rd x0 x14) = (rd x1 x15) then (if 0 ≤ (wrap64 (x14 + 1)) then (if (wrap64 (x14 + 1)) < (x2.length : Int) then (if 0 ≤ (wrap64 (x15 + 1)) then (if (wrap64 (x15 + 1)) < ((rd_L6 x2 (wrap64 (x14 + 1))).length : Int) then (if (rd (rd_L6 x2 (wrap64 (x14 + 1))) (wrap64 (x15 + 1))) = (wrap64 (x5 - 1)) then (some (x14, x15)) else (tattingref7_first.l1 k x0 x1 x2 x4 x5 x14 (wrap64 (x15 + 1)))) else (none)) else (none)) else (none)) else (none)) else (tattingref7_first.l1 k x0 x1 x2 x4 x5 x14 (wrap64 (x15 + 1)))) else (none)) else (none)) else (none)) else (tattingref7_first.l0 k x0 x1 x2 x4 x5 (wrap64 (x14 + 1)))
end
def tattingref7_first.f (k : Nat) (l0 : List Int) (l1 : List Int) (l2 : List (List Int)) (a3 : Int) (a4 : Int) (a5 : Int) : Option (Int × Int) := tattingref7_first.l0 k l0 l1 l2 a4 a5 a3
theorem tattingref7_first.mono_l : ∀ k, (∀ y0 y1 y2 y3 y4 y5, LeO (tattingref7_first.l0 k y0 y1 y2 y3 y4 y5) (tattingref7_first.l0 (k + 1) y0 y1 y2 y3 y4 y5)) ∧ (∀ y0 y1 y2 y3 y4 y5 y6, LeO (tattingref7_first.l1 k y0 y1 y2 y3 y4 y5 y6) (tattingref7_first.l1 (k + 1) y0 y1 y2 y3 y4 y5 y6))
 | 0 => ⟨fun _ _ _ _ _ _ r h => by simp [tattingref7_first.l0] at h, fun _ _ _ _ _ _ _ r h => by simp [tattingref7_first.l1] at h⟩
 | k + 1 => by
  obtain ⟨ih0, ih1⟩ := tattingref7_first.mono_l k
  refine ⟨?_, ?_⟩
  ·intro y0 y1 y2 y3 y4 y5
   unfold tattingref7_first.l0
   repeat' first
   | (with_reducible exact ih0 _ _ _ _ _ _)
   | (with_reducible exact ih1 _ _ _ _ _ _ _)
   | (with_reducible exact LeO.refl _)
   | (with_reducible exact LeO.none _)
   | (with_reducible refine LeO.ite ?_ ?_)
   | (with_reducible refine LeO.bind ?_ (fun _ => ?_))
   | exact ih0 _ _ _ _ _ _
   | exact ih1 _ _ _ _ _ _ _
   | exact LeO.none _
   | refine LeO.ite ?_ ?_
   | refine LeO.bind ?_ (fun _ => ?_)
  ·intro y0 y1 y2 y3 y4 y5 y6
   unfold tattingref7_first.l1
   repeat' first
   | (with_reducible exact ih0 _ _ _ _ _ _)
   | (with_reducible exact ih1 _ _ _ _ _ _ _)
   | (with_reducible exact LeO.refl _)
   | (with_reducible exact LeO.none _)
   | (with_reducible refine LeO.ite ?_ ?_)
   | (with_reducible refine LeO.bind ?_ (fun _ => ?_))
   | exact ih0 _ _ _ _ _ _
   | exact ih1 _ _ _ _ _ _ _
   | exact LeO.none _
   | refine LeO.ite ?_ ?_
   | refine LeO.bind ?_ (fun _ => ?_)
theorem tattingref7_first.mono : ∀ a0 a1 a2 a3 a4 a5 k, LeO (tattingref7_first.f k a0 a1 a2 a3 a4 a5) (tattingref7_first.f (k + 1) a0 a1 a2 a3 a4 a5) := by
 intro a0 a1 a2 a3 a4 a5 k
 obtain ⟨ih0, ih1⟩ := tattingref7_first.mono_l k
 unfold tattingref7_first.f
 repeat' first
   | (with_reducible exact ih0 _ _ _ _ _ _)
   | (with_reducible exact ih1 _ _ _ _ _ _ _)
   | (with_reducible exact LeO.refl _)
   | (with_reducible exact LeO.none _)
   | (with_reducible refine LeO.ite ?_ ?_)
   | (with_reducible refine LeO.bind ?_ (fun _ => ?_))
   | exact ih0 _ _ _ _ _ _
   | exact ih1 _ _ _ _ _ _ _
   | exact LeO.none _
   | refine LeO.ite ?_ ?_
   | refine LeO.bind ?_ (fun _ => ?_)
set_option maxHeartbeats 8000000 in
set_option maxRecDepth 100000 in
theorem tattingref7_first.calls (k : Nat) (A0 : Option Addr) (c0 : Nat) (l0 : List Int) (A1 : Option Addr) (c1 : Nat) (l1 : List Int) (A2 : Option Addr) (c2 : Nat) (l2 : List (List Int)) (a3 : Int) (a4 : Int) (a5 : Int) (r1 : Int) (r2 : Int) (w : World) (hr0 : Kd.C (Kd.int .i64) w A0 l0.length l0) (hc0 : l0.length ≤ c0) (hr1 : Kd.C (Kd.int .i64) w A1 l1.length l1) (hc1 : l1.length ≤ c1) (hr2 : Kd.C (Kd.slice 3 (Kd.int .i64)) w A2 l2.length l2) (hc2 : l2.length ≤ c2) (h : tattingref7_first.f k l0 l1 l2 a3 a4 a5 = some (r1, r2)) :
  Calls Try.prog 31 #[.slice A0 l0.length c0, .slice A1 l1.length c1, .slice A2 l2.length c2, .int .i64 a3, .int .i64 a4, .int .i64 a5] w fun e w' => e = .returned (.tuple #[.int .i64 r1, .int .i64 r2]) ∧ Drawn0 w w' := by
 have HR0 := Aside0.mk hr0
 have HC0 := Aside0.mk hc0
 clear hr0 hc0
 have HR1 := Aside0.mk hr1
 have HC1 := Aside0.mk hc1
 clear hr1 hc1
 have HR2 := Aside0.mk hr2
 have HC2 := Aside0.mk hc2
 clear hr2 hc2
 have H : (tattingref7_first.l0 k l0 l1 l2 a4 a5 a3) = some (r1, r2) := h
 clear h
 have H' := Aside0.mk H
 clear H
 go_enter Try.func31, Try.ntmps31
 go_wp2
 repeat (go_quiet (fail); try go_wp2)
 go_loopg [14] k (fun kq v14 w' => ∃ (x14_1 : Int), v14 = .int .i64 x14_1 ∧ Aside0 (tattingref7_first.l0 kq l0 l1 l2 a4 a5 x14_1 = some (r1, r2)) ∧ Aside0 (kq ≤ k) ∧ Drawn0 w w')
 case atStart => exact ⟨(a3), (by first | rfl | (simp; done) | (simp [*]; done)), H', ⟨Nat.le_refl _⟩, by repeat (first | exact Drawn0.refl _ | apply Drawn0.step)⟩
 case round =>
  clear H'
  try clear c1
  try clear c2
  try clear p2
  try clear c3
  obtain ⟨x14_1, rfl, HA, HK1, ⟨m1, rfl⟩⟩ := hrel
  cases gk with
  | zero => exact absurd HA.out (by simp [tattingref7_first.l0])
  | succ k1 =>
   have H := HA.out
   clear HA
   simp only [tattingref7_first.l0] at H
   by_cases c7 : x14_1 < (l0.length : Int)
   ·rw [if_pos c7] at H
    have c7b0 : decide (x14_1 < (l0.length : Int)) = true := decide_eq_true c7
    clear c7
    have H' := Aside0.mk H
    clear H
    go_wp2
    repeat (go_quiet (fail); try go_wp2)
    go_loopg [15] k1 (fun kq v15 w' => ∃ (x15_2 : Int), v15 = .int .i64 x15_2 ∧ Aside0 (tattingref7_first.l1 kq l0 l1 l2 a4 a5 x14_1 x15_2 = some (r1, r2)) ∧ Aside0 (kq ≤ k1) ∧ Drawn0 w w')
    case atStart => exact ⟨(a4), (by first | rfl | (simp; done) | (simp [*]; done)), H', ⟨Nat.le_refl _⟩, by repeat (first | exact Drawn0.refl _ | apply Drawn0.step)⟩
    case round =>
     clear H'
     try clear c1
     try clear c2
     try clear p2
     try clear c3
     try clear c7
     try clear c7b0
     try clear p2
     obtain ⟨x15_2, rfl, HA, HK2, ⟨m2, rfl⟩⟩ := hrel
     cases gk with
     | zero => exact absurd HA.out (by simp [tattingref7_first.l1])
     | succ k2 =>
      have H := HA.out
      clear HA
      simp only [tattingref7_first.l1] at H
      by_cases c8 : x15_2 < (l1.length : Int)
      ·rw [if_pos c8] at H
       have c8b0 : decide (x15_2 < (l1.length : Int)) = true := decide_eq_true c8
       clear c8
       by_cases c9 : 0 ≤ x14_1
       ·rw [if_pos c9] at H
        have c9b0 : decide (0 ≤ x14_1) = true := decide_eq_true c9
        clear c9
        by_cases c10 : x14_1 < (l0.length : Int)
        ·rw [if_pos c10] at H
         have c10b0 : decide (x14_1 < (l0.length : Int)) = true := decide_eq_true c10
         clear c10
         by_cases c11 : 0 ≤ x15_2
         ·rw [if_pos c11] at H
          have c11b0 : decide (0 ≤ x15_2) = true := decide_eq_true c11
          clear c11
          by_cases c12 : (rd l0 x14_1) = (rd l1 x15_2)
          ·rw [if_pos c12] at H
           have c12b0 : ((rd l0 x14_1) == (rd l1 x15_2)) = true := beq_iff_eq.mpr c12
           have c12b1 : ((rd l0 x14_1) != (rd l1 x15_2)) = false := bne_eq_false_iff_eq.mpr c12
           clear c12
           obtain ⟨ji13, hji13⟩ : ∃ j_ : Int, (wrap64 (x14_1 + 1)) = j_ := ⟨_, rfl⟩
           replace H : (if 0 ≤ (ji13) then (if (ji13) < (l2.length : Int) then (if 0 ≤ (wrap64 (x15_2 + 1)) then (if (wrap64 (x15_2 + 1)) < ((rd_L6 l2 (ji13)).length : Int) then (if (rd (rd_L6 l2 (ji13)) (wrap64 (x15_2 + 1))) = (wrap64 (a5 - 1)) then (some (x14_1, x15_2)) else (tattingref7_first.l1 k2 l0 l1 l2 a4 a5 x14_1 (wrap64 (x15_2 + 1)))) else (none)) else (none)) else (none)) else (none)) = some (r1, r2) := by first | (rw [hji13] at H; exact H) | (simp only [hji13] at H ⊢; exact H)
           have hji13w : (IntKind.i64.wrap (x14_1 + 1)) = ji13 := (i64_w _).trans hji13
           by_cases c14 : 0 ≤ (ji13)
           ·rw [if_pos c14] at H
            have c14b0 : decide (0 ≤ (ji13)) = true := decide_eq_true c14
            clear c14
            by_cases c15 : (ji13) < (l2.length : Int)
            ·rw [if_pos c15] at H
             have c15b0 : decide ((ji13) < (l2.length : Int)) = true := decide_eq_true c15
             clear c15
             obtain ⟨ji16, hji16⟩ : ∃ j_ : Int, (wrap64 (x15_2 + 1)) = j_ := ⟨_, rfl⟩
             replace H : (if 0 ≤ (ji16) then (if (ji16) < ((rd_L6 l2 (ji13)).length : Int) then (if (rd (rd_L6 l2 (ji13)) (ji16)) = (wrap64 (a5 - 1)) then (some (x14_1, x15_2)) else (tattingref7_first.l1 k2 l0 l1 l2 a4 a5 x14_1 ji16)) else (none)) else (none)) = some (r1, r2) := by first | (rw [hji16] at H; exact H) | (simp only [hji16] at H ⊢; exact H)
             have hji16w : (IntKind.i64.wrap (x15_2 + 1)) = ji16 := (i64_w _).trans hji16
             by_cases c17 : 0 ≤ (ji16)
             ·rw [if_pos c17] at H
              have c17b0 : decide (0 ≤ (ji16)) = true := decide_eq_true c17
              clear c17
              by_cases c18 : (ji16) < ((rd_L6 l2 (ji13)).length : Int)
              ·rw [if_pos c18] at H
               have c18b0 : decide ((ji16) < ((rd_L6 l2 (ji13)).length : Int)) = true := decide_eq_true c18
               clear c18
               by_cases c19 : (rd (rd_L6 l2 (ji13)) (ji16)) = (wrap64 (a5 - 1))
               ·rw [if_pos c19] at H
                have c19b0 : ((rd (rd_L6 l2 (ji13)) (ji16)) == (wrap64 (a5 - 1))) = true := beq_iff_eq.mpr c19
                have c19b1 : ((rd (rd_L6 l2 (ji13)) (ji16)) != (wrap64 (a5 - 1))) = false := bne_eq_false_iff_eq.mpr c19
                clear c19
                simp only [Option.some.injEq, Prod.mk.injEq] at H
                obtain ⟨rfl, rfl⟩ := H
                have p340 : 0 ≤ (x14_1 : Int) := of_decide_eq_true (by first | (with_reducible assumption) | assumption)
                have q340 : x14_1 < (l0.length : Int) := of_decide_eq_true (by first | (with_reducible assumption) | assumption)
                obtain ⟨ad340, e340, hx340_0⟩ := Kd.at_int HR0.out x14_1 p340 q340
                cases e340
                replace p340 := eq_true p340
                replace q340 := eq_true q340
                have p341 : 0 ≤ (x15_2 : Int) := of_decide_eq_true (by first | (with_reducible assumption) | assumption)
                have q341 : x15_2 < (l1.length : Int) := of_decide_eq_true (by first | (with_reducible assumption) | assumption)
                obtain ⟨ad341, e341, hx341_0⟩ := Kd.at_int HR1.out x15_2 p341 q341
                cases e341
                replace p341 := eq_true p341
                replace q341 := eq_true q341
                have p342 : 0 ≤ ((ji13) : Int) := of_decide_eq_true (by first | (with_reducible assumption) | assumption)
                have q342 : (ji13) < (l2.length : Int) := of_decide_eq_true (by first | (with_reducible assumption) | assumption)
                obtain ⟨ad342, A342_0, c342_0, e342, hx342_0, hl342_0, hi342_0⟩ := at_L6 HR2.out (ji13) p342 q342
                cases e342
                have HR342_0 := Aside0.mk hi342_0
                have HC342_0 := Aside0.mk hl342_0
                clear hi342_0 hl342_0
                replace p342 := eq_true p342
                replace q342 := eq_true q342
                have p343 : 0 ≤ ((ji16) : Int) := of_decide_eq_true (by first | (with_reducible assumption) | assumption)
                have q343 : (ji16) < ((rd_L6 l2 (ji13)).length : Int) := of_decide_eq_true (by first | (with_reducible assumption) | assumption)
                obtain ⟨ad343, e343, hx343_0⟩ := Kd.at_int HR342_0.out (ji16) p343 q343
                cases e343
                replace p343 := eq_true p343
                replace q343 := eq_true q343
                go_wp2
                repeat (go_quiet (fail); try go_wp2)
                go_ret2
                exact ⟨by first | rfl | (simp; done) | (simp only [← hji13, ← hji16] <;> (first | rfl | simp)) | (simp [*]; done), by repeat (first | exact Drawn0.refl _ | apply Drawn0.step)⟩
               ·rw [if_neg c19] at H
                have c19b0 : ((rd (rd_L6 l2 (ji13)) (ji16)) == (wrap64 (a5 - 1))) = false := beq_eq_false_iff_ne.mpr c19
                have c19b1 : ((rd (rd_L6 l2 (ji13)) (ji16)) != (wrap64 (a5 - 1))) = true := bne_iff_ne.mpr c19
                have H' := Aside0.mk H
                clear H
                have p340 : 0 ≤ (x14_1 : Int) := of_decide_eq_true (by first | (with_reducible assumption) | assumption)
                have q340 : x14_1 < (l0.length : Int) := of_decide_eq_true (by first | (with_reducible assumption) | assumption)
                obtain ⟨ad340, e340, hx340_0⟩ := Kd.at_int HR0.out x14_1 p340 q340
                cases e340
                replace p340 := eq_true p340
                replace q340 := eq_true q340
                have p341 : 0 ≤ (x15_2 : Int) := of_decide_eq_true (by first | (with_reducible assumption) | assumption)
                have q341 : x15_2 < (l1.length : Int) := of_decide_eq_true (by first | (with_reducible assumption) | assumption)
                obtain ⟨ad341, e341, hx341_0⟩ := Kd.at_int HR1.out x15_2 p341 q341
                cases e341
                replace p341 := eq_true p341
                replace q341 := eq_true q341
                have p342 : 0 ≤ ((ji13) : Int) := of_decide_eq_true (by first | (with_reducible assumption) | assumption)
                have q342 : (ji13) < (l2.length : Int) := of_decide_eq_true (by first | (with_reducible assumption) | assumption)
                obtain ⟨ad342, A342_0, c342_0, e342, hx342_0, hl342_0, hi342_0⟩ := at_L6 HR2.out (ji13) p342 q342
                cases e342
                have HR342_0 := Aside0.mk hi342_0
                have HC342_0 := Aside0.mk hl342_0
                clear hi342_0 hl342_0
                replace p342 := eq_true p342
                replace q342 := eq_true q342
                have p343 : 0 ≤ ((ji16) : Int) := of_decide_eq_true (by first | (with_reducible assumption) | assumption)
                have q343 : (ji16) < ((rd_L6 l2 (ji13)).length : Int) := of_decide_eq_true (by first | (with_reducible assumption) | assumption)
                obtain ⟨ad343, e343, hx343_0⟩ := Kd.at_int HR342_0.out (ji16) p343 q343
                cases e343
                replace p343 := eq_true p343
                replace q343 := eq_true q343
                go_wp2
                repeat (go_quiet (fail); try go_wp2)
                go_roundg k2
                case measure => have := HK1.out; have := HK2.out; omega
                case rel => exact ⟨(ji16), (by first | rfl | (simp; done) | (simp only [← hji16] <;> (first | rfl | simp)) | (simp [*]; done)), H', ⟨by have := HK1.out; have := HK2.out; omega⟩, by repeat (first | exact Drawn0.refl _ | apply Drawn0.step)⟩
              ·rw [if_neg c18] at H
               exact absurd H (by simp)
             ·rw [if_neg c17] at H
              exact absurd H (by simp)
            ·rw [if_neg c15] at H
             exact absurd H (by simp)
           ·rw [if_neg c14] at H
            exact absurd H (by simp)
          ·rw [if_neg c12] at H
           have c12b0 : ((rd l0 x14_1) == (rd l1 x15_2)) = false := beq_eq_false_iff_ne.mpr c12
           have c12b1 : ((rd l0 x14_1) != (rd l1 x15_2)) = true := bne_iff_ne.mpr c12
           have H' := Aside0.mk H
           clear H
           have p340 : 0 ≤ (x14_1 : Int) := of_decide_eq_true (by first | (with_reducible assumption) | assumption)
           have q340 : x14_1 < (l0.length : Int) := of_decide_eq_true (by first | (with_reducible assumption) | assumption)
           obtain ⟨ad340, e340, hx340_0⟩ := Kd.at_int HR0.out x14_1 p340 q340
           cases e340
           replace p340 := eq_true p340
           replace q340 := eq_true q340
           have p341 : 0 ≤ (x15_2 : Int) := of_decide_eq_true (by first | (with_reducible assumption) | assumption)
           have q341 : x15_2 < (l1.length : Int) := of_decide_eq_true (by first | (with_reducible assumption) | assumption)
           obtain ⟨ad341, e341, hx341_0⟩ := Kd.at_int HR1.out x15_2 p341 q341
           cases e341
           replace p341 := eq_true p341
           replace q341 := eq_true q341
           go_wp2
           repeat (go_quiet (fail); try go_wp2)
           go_roundg k2
           case measure => have := HK1.out; have := HK2.out; omega
           case rel => exact ⟨(wrap64 (x15_2 + 1)), (by first | rfl | (simp; done) | (simp [*]; done)), H', ⟨by have := HK1.out; have := HK2.out; omega⟩, by repeat (first | exact Drawn0.refl _ | apply Drawn0.step)⟩
         ·rw [if_neg c11] at H
          exact absurd H (by simp)
        ·rw [if_neg c10] at H
         exact absurd H (by simp)
       ·rw [if_neg c9] at H
        exact absurd H (by simp)
      ·rw [if_neg c8] at H
       have c8b0 : decide (x15_2 < (l1.length : Int)) = false := decide_eq_false c8
       clear c8
       have H' := Aside0.mk H
       clear H
       go_wp2
       repeat (go_quiet (fail); try go_wp2)
       go_roundg k2
       case measure => have := HK1.out; have := HK2.out; omega
       case rel => exact ⟨(wrap64 (x14_1 + 1)), (by first | rfl | (simp; done) | (simp [*]; done)), H', ⟨by have := HK1.out; have := HK2.out; omega⟩, by repeat (first | exact Drawn0.refl _ | apply Drawn0.step)⟩
   ·rw [if_neg c7] at H
    have c7b0 : decide (x14_1 < (l0.length : Int)) = false := decide_eq_false c7
    clear c7
    simp only [Option.some.injEq, Prod.mk.injEq] at H
    obtain ⟨rfl, rfl⟩ := H
    go_wp2
    repeat (go_quiet (fail); try go_wp2)
    go_ret2
    exact ⟨by first | rfl | (simp; done) | (simp [*]; done), by repeat (first | exact Drawn0.refl _ | apply Drawn0.step)⟩

/-! ### tattingref7_Least: function 20 -/
def tattingref7_Least.l0 : Nat → List Int → List Int → List (List Int) → List (S54) → Int → Int → Int → Option ((List (S54)))
 | 0, _, _, _, _, _, _, _ => none
 | k + 1, x0, x1, x5, x6, x7, x8, x9 => if x9 > 0 then ((tattingref7_first.f k x0 x1 x5 x7 x8 x9).bind fun bt349 => (if x6.length < 8796093022208 then (tattingref7_Least.l0 k x0 x1 x5 (x6 ++ [(⟨bt349.1, bt349.2⟩ : S54)]) (wrap64 (bt349.1 + 1)) (wrap64 (bt349.2 + 1)) (wrap64 (x9 - 1))) else (none))) else (some x6)
def tattingref7_Least.f (k : Nat) (l0 : List Int) (l1 : List Int) : Option ((List (S54))) := (tattingref7_Behind.f k l0 l1).bind fun t344 => (if 0 < (t344.length : Int) then (if 0 < ((rd_L6 t344 0).length : Int) then (tattingref7_Least.l0 k l0 l1 t344 ([] : List (S54)) 0 0 (rd (rd_L6 t344 0) 0)) else (none)) else (none))
theorem tattingref7_Least.mono_l : ∀ k, (∀ y0 y1 y2 y3 y4 y5 y6, LeO (tattingref7_Least.l0 k y0 y1 y2 y3 y4 y5 y6) (tattingref7_Least.l0 (k + 1) y0 y1 y2 y3 y4 y5 y6))
 | 0 => fun _ _ _ _ _ _ _ r h => by simp [tattingref7_Least.l0] at h
 | k + 1 => by
  have ih0 := tattingref7_Least.mono_l k
  ·intro y0 y1 y2 y3 y4 y5 y6
   unfold tattingref7_Least.l0
   repeat' first
   | (with_reducible exact ih0 _ _ _ _ _ _ _)
   | (with_reducible exact tattingref7_Behind.mono _ _ _)
   | (with_reducible exact tattingref7_first.mono _ _ _ _ _ _ _)
   | (with_reducible exact LeO.refl _)
   | (with_reducible exact LeO.none _)
   | (with_reducible refine LeO.ite ?_ ?_)
   | (with_reducible refine LeO.bind ?_ (fun _ => ?_))
   | exact ih0 _ _ _ _ _ _ _
   | exact tattingref7_Behind.mono _ _ _
   | exact tattingref7_first.mono _ _ _ _ _ _ _
   | exact LeO.none _
   | refine LeO.ite ?_ ?_
   | refine LeO.bind ?_ (fun _ => ?_)
theorem tattingref7_Least.mono : ∀ a0 a1 k, LeO (tattingref7_Least.f k a0 a1) (tattingref7_Least.f (k + 1) a0 a1) := by
 intro a0 a1 k
 have ih0 := tattingref7_Least.mono_l k
 unfold tattingref7_Least.f
 repeat' first
   | (with_reducible exact ih0 _ _ _ _ _ _ _)
   | (with_reducible exact tattingref7_Behind.mono _ _ _)
   | (with_reducible exact tattingref7_first.mono _ _ _ _ _ _ _)
   | (with_reducible exact LeO.refl _)
   | (with_reducible exact LeO.none _)
   | (with_reducible refine LeO.ite ?_ ?_)
   | (with_reducible refine LeO.bind ?_ (fun _ => ?_))
   | exact ih0 _ _ _ _ _ _ _
   | exact tattingref7_Behind.mono _ _ _
   | exact tattingref7_first.mono _ _ _ _ _ _ _
   | exact LeO.none _
   | refine LeO.ite ?_ ?_
   | refine LeO.bind ?_ (fun _ => ?_)
set_option maxHeartbeats 8000000 in
set_option maxRecDepth 100000 in
theorem tattingref7_Least.calls (k : Nat) (A0 : Option Addr) (c0 : Nat) (l0 : List Int) (A1 : Option Addr) (c1 : Nat) (l1 : List Int) (r : List (S54)) (w : World) (hr0 : Kd.C (Kd.int .i64) w A0 l0.length l0) (hc0 : l0.length ≤ c0) (hr1 : Kd.C (Kd.int .i64) w A1 l1.length l1) (hc1 : l1.length ≤ c1) (h : tattingref7_Least.f k l0 l1 = some r) :
  Calls Try.prog 20 #[.slice A0 l0.length c0, .slice A1 l1.length c1] w fun e w' => ∃ v0_ : Value, e = .returned (v0_) ∧ Kd.R k54 54 w' w.heap.size (fun _ => True) v0_ r ∧ Below w.heap.size w w' := by
 have hu54 := Try.underlying54
 have HR0 := Aside0.mk hr0
 have HC0 := Aside0.mk hc0
 clear hr0 hc0
 have HR1 := Aside0.mk hr1
 have HC1 := Aside0.mk hc1
 clear hr1 hc1
 have HB := Aside0.mk (Below.refl w.heap.size w)
 have H : ((tattingref7_Behind.f k l0 l1).bind fun t344 => (if 0 < (t344.length : Int) then (if 0 < ((rd_L6 t344 0).length : Int) then (tattingref7_Least.l0 k l0 l1 t344 ([] : List (S54)) 0 0 (rd (rd_L6 t344 0) 0)) else (none)) else (none))) = some r := h
 clear h
 replace H := Option.bind_eq_some_iff.mp H
 obtain ⟨t344, A30, H⟩ := H
 replace H : (if 0 < (t344.length : Int) then (if 0 < ((rd_L6 t344 0).length : Int) then (tattingref7_Least.l0 k l0 l1 t344 ([] : List (S54)) 0 0 (rd (rd_L6 t344 0) 0)) else (none)) else (none)) = some r := H
 have A3 := Aside0.mk A30
 clear A30
 by_cases c4 : 0 < (t344.length : Int)
 ·rw [if_pos c4] at H
  have c4b0 : decide (0 < (t344.length : Int)) = true := decide_eq_true c4
  have c4b1 : decide (0 < t344.length) = true := decide_eq_true (by omega)
  clear c4
  by_cases c5 : 0 < ((rd_L6 t344 0).length : Int)
  ·rw [if_pos c5] at H
   have c5b0 : decide (0 < ((rd_L6 t344 0).length : Int)) = true := decide_eq_true c5
   have c5b1 : decide (0 < (rd_L6 t344 0).length) = true := decide_eq_true (by omega)
   clear c5
   have H' := Aside0.mk H
   clear H
   go_enter Try.func20, Try.ntmps20
   go_wp2_with (first | ((first | (with_reducible refine gate_callee (f := 30) rfl ?_); refine goesL_ (some 14) rfl rfl Try.func30 (by kernel_rfl) rfl #[.slice A0 l0.length c0, .slice A1 l1.length c1] rfl (by (try simp only [List.map_toArray, List.map_cons, List.map_nil]); first | done | rfl | (simp only [List.length_drop, List.length_take]; rfl)) ?_ | go_at_call 30); (with_reducible refine (tattingref7_Behind.calls k _ _ l0 _ _ l1 t344 _ ?side1 ?side2 ?side3 ?side4 A3.out).mono ?_); (case side1 => repeat (first | exact HR0.out | (with_reducible refine Kd.C_alloc ?_ _) | (with_reducible refine Kd.C_drewN ?_ _) | (with_reducible refine Kd.C_drew ?_))); (case side2 => exact HC0.out); (case side3 => repeat (first | exact HR1.out | (with_reducible refine Kd.C_alloc ?_ _) | (with_reducible refine Kd.C_drewN ?_ _) | (with_reducible refine Kd.C_drew ?_))); (case side4 => exact HC1.out); rintro e w6 ⟨v345, rfl, ho0, hb⟩; (try refine ⟨_, rfl, ?_⟩); have n0_ := Aside0.mk (Kd.S_lower ho0 (below_size (by repeat (first | (with_reducible first | exact HB.out | apply below_alloc | apply pw_below_drewN | apply below_drew1) | exact HB.out)))); have n1_ := Aside0.mk (below_step (by repeat (first | (with_reducible first | exact HB.out | apply below_alloc | apply pw_below_drewN | apply below_drew1) | exact HB.out)) hb); clear HB; have HO346 := n0_; have HB := n1_; clear n0_ n1_; (try clear hb); (try clear hb2); (try clear hk); (try clear hi); (try clear ho0); obtain ⟨Ao7, co7, eo7⟩ := Kd.S_slice HO346.out; subst eo7; have p347 : 0 ≤ (0 : Int) := (by omega); have q347 : 0 < (t344.length : Int) := of_decide_eq_true (by first | (with_reducible assumption) | assumption); obtain ⟨ad347, A347_0, c347_0, e347, hx347_0, hl347_0, hi347_0⟩ := at_L6 (Kd.S_reads' HO346.out).2.2 0 p347 q347; cases e347; obtain ⟨ce347, hce347, hMe347, hcc347⟩ := Kd.S_get HO346.out [] 0 p347 (by first | exact q347 | exact of_decide_eq_true (by first | (with_reducible assumption) | assumption) | (have e_ := (Kd.S_reads' HO346.out).1; omega)); obtain ⟨ve347_0, rfl, ge347_0⟩ := hMe347; have hv347_0 := hcc347 0 _ rfl; rw [Nat.add_zero, show ((Kd.slice 3 (Kd.int .i64))).sz = 1 from rfl, Nat.mul_one] at hv347_0; replace hv347_0 := Option.some.inj (hv347_0.symm.trans hx347_0); rw [hv347_0] at ge347_0; have HL347_0 := Aside0.mk (show Kd.R (Kd.int .i64) 3 _ _ _ _ (rd_L6 t344 0) from ge347_0); clear hv347_0 ge347_0; (try clear hcc347); (try clear hce347); have qi347 : (0 < t344.length) = True := eq_true (by omega); (try rw [show ((0 : Int)).toNat = 0 from rfl] at hx347_0); (try rw [Addr.add_zero'] at hx347_0); have HR347_0 := Aside0.mk hi347_0; have HC347_0 := Aside0.mk hl347_0; (try clear hi347_0); (try clear hl347_0); replace p347 := eq_true p347; replace q347 := eq_true q347; have p348 : 0 ≤ (0 : Int) := (by omega); have q348 : 0 < ((rd_L6 t344 0).length : Int) := of_decide_eq_true (by first | (with_reducible assumption) | assumption); obtain ⟨ad348, e348, hx348_0⟩ := Kd.at_int (by repeat (first | (with_reducible exact HR347_0.out) | (with_reducible refine Kd.C_alloc ?_ _) | (with_reducible refine Kd.C_drewN ?_ _) | (with_reducible refine Kd.C_drew ?_) | exact HR347_0.out)) 0 p348 q348; cases e348; have qi348 : (0 < (rd_L6 t344 0).length) = True := eq_true (by omega); (try rw [show ((0 : Int)).toNat = 0 from rfl] at hx348_0); (try rw [Addr.add_zero'] at hx348_0); replace p348 := eq_true p348; replace q348 := eq_true q348))
   go_loopg [6, 7, 8, 9] k (fun kq v6 v7 v8 v9 w' => ∃ (x6_1 : List (S54)) (x7_1 : Int) (x8_1 : Int) (x9_1 : Int), v7 = .int .i64 x7_1 ∧ v8 = .int .i64 x8_1 ∧ v9 = .int .i64 x9_1 ∧ Aside0 (tattingref7_Least.l0 kq l0 l1 t344 x6_1 x7_1 x8_1 x9_1 = some r) ∧ Aside0 (kq ≤ k) ∧ Aside0 (Kd.S (Kd.slice 3 (Kd.int .i64)) 38 w' w.heap.size (fun _ => True) (.slice (some ad347) t344.length co7) t344) ∧ Aside0 (Kd.R k54 54 w' w.heap.size (fun _ => True) v6 x6_1) ∧ Aside0 (Below w.heap.size w w'))
   case atStart => exact ⟨(([] : List (S54))), (0), (0), (rd (rd_L6 t344 0) 0), (by first | rfl | (simp; done) | (simp [*]; done)), (by first | rfl | (simp; done) | (simp [*]; done)), (by first | rfl | (simp; done) | (simp [*]; done)), H', ⟨Nat.le_refl _⟩, ⟨by (with_reducible repeat (first | apply Kd.S_alloc | apply Kd.S_drewN | apply Kd.S_drew)); exact HO346.out⟩, ⟨by first | exact Kd.R_nil _ _ _ _ _ | exact Kd.N_nil _ _ _ _ _ | exact Kd.V_nil _ _ _ _ _ | exact Kd.Q_nil _ _ _ _ _ | exact Kd.S_nil _ _ _ _ _⟩, ⟨by repeat (first | (with_reducible first | exact HB.out | apply below_alloc | apply pw_below_drewN | apply below_drew1) | exact HB.out)⟩⟩
   case round =>
    clear H'
    try clear c1
    try clear c2
    try clear p2
    try clear c3
    try clear p3
    try clear q3
    try clear hx3
    try clear qi3
    try clear c4
    try clear c4b0
    try clear c4b1
    try clear c5
    try clear c5b0
    try clear c5b1
    try clear hx347_0
    try clear hx348_0
    try clear p347
    try clear p348
    try clear q347
    try clear q348
    obtain ⟨x6_1, x7_1, x8_1, x9_1, rfl, rfl, rfl, HA, HK1, HO_5, HO_6, HB⟩ := hrel
    cases gk with
    | zero => exact absurd HA.out (by simp [tattingref7_Least.l0])
    | succ k1 =>
     have H := HA.out
     clear HA
     simp only [tattingref7_Least.l0] at H
     by_cases c8 : x9_1 > 0
     ·rw [if_pos c8] at H
      have c8b0 : decide (0 < x9_1) = true := decide_eq_true c8
      clear c8
      replace H := Option.bind_eq_some_iff.mp H
      obtain ⟨⟨t349, t350⟩, A90, H⟩ := H
      replace H : (if x6_1.length < 8796093022208 then (tattingref7_Least.l0 k1 l0 l1 t344 (x6_1 ++ [(⟨t349, t350⟩ : S54)]) (wrap64 (t349 + 1)) (wrap64 (t350 + 1)) (wrap64 (x9_1 - 1))) else (none)) = some r := H
      have A9 := Aside0.mk A90
      clear A90
      by_cases c10 : x6_1.length < 8796093022208
      ·rw [if_pos c10] at H
       have LMc10 := Aside0.mk c10
       clear c10
       obtain ⟨y351, hy351⟩ : ∃ y_ : List (S54), y_ = (x6_1 ++ [(⟨t349, t350⟩ : S54)]) := ⟨_, rfl⟩
       replace H : (tattingref7_Least.l0 k1 l0 l1 t344 y351 (wrap64 (t349 + 1)) (wrap64 (t350 + 1)) (wrap64 (x9_1 - 1))) = some r := by first | (rw [hy351]; with_reducible exact H) | (have H2_ := (Option.bind_some _ _).symm.trans H; rw [hy351]; with_reducible exact H2_) | (have H2_ := (Option.bind_some _ _).symm.trans H; with_reducible exact H2_) | with_reducible exact H | (rw [hy351]; exact H) | exact H
       have Ny351 := Aside0.mk hy351
       clear hy351
       have H' := Aside0.mk H
       clear H
       go_wp2_with (first | ((first | (with_reducible refine gate_callee (f := 31) rfl ?_); refine goesL_ (some 31) rfl rfl Try.func31 (by kernel_rfl) rfl #[.slice A0 l0.length c0, .slice A1 l1.length c1, .slice (some ad347) t344.length co7, .int .i64 x7_1, .int .i64 x8_1, .int .i64 x9_1] rfl (by (try simp only [List.map_toArray, List.map_cons, List.map_nil]); first | done | rfl | (simp only [List.length_drop, List.length_take]; rfl)) ?_ | go_at_call 31); (with_reducible refine (tattingref7_first.calls k1 _ _ l0 _ _ l1 _ _ t344 x7_1 x8_1 x9_1 t349 t350 _ ?side1 ?side2 ?side3 ?side4 ?side5 ?side6 A9.out).mono ?_); (case side1 => repeat (first | exact (Kd.C_below HR0.out HB.out) | (with_reducible refine Kd.C_alloc ?_ _) | (with_reducible refine Kd.C_drewN ?_ _) | (with_reducible refine Kd.C_drew ?_))); (case side2 => exact HC0.out); (case side3 => repeat (first | exact (Kd.C_below HR1.out HB.out) | (with_reducible refine Kd.C_alloc ?_ _) | (with_reducible refine Kd.C_drewN ?_ _) | (with_reducible refine Kd.C_drew ?_))); (case side4 => exact HC1.out); (case side5 => repeat (first | exact (Kd.S_reads' HO_5.out).2.2 | (with_reducible refine Kd.C_alloc ?_ _) | (with_reducible refine Kd.C_drewN ?_ _) | (with_reducible refine Kd.C_drew ?_))); (case side6 => exact (Kd.S_reads' HO_5.out).2.1); rintro e w' ⟨rfl, ⟨nd, rfl⟩⟩; (try refine ⟨_, rfl, ?_⟩)) | ((with_reducible refine gate_builtin (b := .append) (xs := #[.tmp 34, .tmp 38]) rfl ?_); at_builtin; refine Kd.R_append k54 (w0 := w) w.heap.size rfl (.tmp 34) (.tmp 38) 42 54 (.agg #[(.int .i64 0), (.int .i64 0)]) 16 rfl Try.underlying42 info54 rfl (by decide) (by omega) u6 x6_1 (⟨t349, t350⟩ : S54) [.int .i64 t349, .int .i64 t350] (fun _ => True) (fun _ => False) rfl rfl ?aP (fun _ hk => hk.elim) ?aF ?aO ?aB ?aS ?aL ?_; (case aP => exact k54_mkM _ _ _ (⟨t349, t350⟩ : S54)); (case aB => exact (by repeat (first | (with_reducible first | exact HB.out | apply below_alloc | apply pw_below_drewN | apply below_drew1) | exact HB.out))); (case aF => exact (fun _ _ => trivial)); (case aO => exact (by (with_reducible repeat (first | apply Kd.R_alloc | apply Kd.R_drewN | apply Kd.R_drew)); exact HO_6.out)); (case aS => exact (below_size (by repeat (first | (with_reducible first | exact HB.out | apply below_alloc | apply pw_below_drewN | apply below_drew1) | exact HB.out)))); (case aL => have := LMc10.out; omega); intro v352 w11 ho hb hg hat; rw [← Ny351.out] at ho; have n0_ := Aside0.mk (Kd.S_over' (by (with_reducible repeat (first | apply Kd.S_alloc | apply Kd.S_drewN | apply Kd.S_drew)); exact HO_5.out) (Kd.R_typed (by (with_reducible repeat (first | apply Kd.R_alloc | apply Kd.R_drewN | apply Kd.R_drew)); exact HO_6.out)) (by decide) hg); have n1_ := Aside0.mk (hb); have n2_ := Aside0.mk (ho); clear HO_5; clear HB; clear HO_6; have HO_5 := n0_; have HB := n1_; have HO353 := n2_; clear n0_ n1_ n2_; (try clear ho); (try clear hb); (try clear hg); (try clear hat)))
       go_roundg k1
       case measure => have := HK1.out; omega
       case rel => exact ⟨(y351), (wrap64 (t349 + 1)), (wrap64 (t350 + 1)), (wrap64 (x9_1 - 1)), (by first | rfl | (simp; done) | (simp [*]; done)), (by first | rfl | (simp; done) | (simp [*]; done)), (by first | rfl | (simp; done) | (simp [*]; done)), H', ⟨by have := HK1.out; omega⟩, ⟨by (with_reducible repeat (first | apply Kd.S_alloc | apply Kd.S_drewN | apply Kd.S_drew)); exact HO_5.out⟩, ⟨by (with_reducible repeat (first | apply Kd.R_alloc | apply Kd.R_drewN | apply Kd.R_drew)); exact HO353.out⟩, ⟨by repeat (first | (with_reducible first | exact HB.out | apply below_alloc | apply pw_below_drewN | apply below_drew1) | exact HB.out)⟩⟩
      ·rw [if_neg c10] at H
       exact absurd H (by simp)
     ·rw [if_neg c8] at H
      have c8b0 : decide (0 < x9_1) = false := decide_eq_false c8
      clear c8
      obtain rfl := Option.some.inj H
      go_wp2
      go_ret
      exact ⟨_, by first | rfl | (simp [errW_none, errW_some] <;> rfl) | (simp [*, errW_none, errW_some] <;> rfl), by (with_reducible repeat (first | apply Kd.R_alloc | apply Kd.R_drewN | apply Kd.R_drew)); exact HO_6.out, by repeat (first | (with_reducible first | exact HB.out | apply below_alloc | apply pw_below_drewN | apply below_drew1) | exact HB.out)⟩
  ·rw [if_neg c5] at H
   exact absurd H (by simp)
 ·rw [if_neg c4] at H
  exact absurd H (by simp)

end Go.Proofs.Ytlodaoijokfblaa.PPatchMade
