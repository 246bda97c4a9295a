/- What the given program's functions come to, each a Lean function and the walk that shows it: no condition beside those that each theorem names. -/
import Derived.Test.YtdegajidkboknaaPCanonAnyx0
import Derived.Test.YtdegajidkboknaaPCanonAnyx8
namespace Go.Proofs.Ytdegajidkboknaa.PCanonAny
open Go.RowKit Go.Proofs.YtdegajidkboknaaW.PrintWords Go.Proofs.YtdegajidkboknaaW.PrintLast Go.Proofs.YtdegajidkboknaaW.PrintMore
attribute [local go_sem] max2_int min2_int max_two min_two max_three min_three max_four min_four   -- for this text's walks alone
set_option linter.unusedVariables false
set_option linter.unusedSimpArgs false

/-! ### tattingref7_first: function 30 -/
mutual
def tattingref7_first.l0 : Nat → List Int → List Int → List (List Int) → Int → Int → Int → Option (Int × Int)
 | 0, _, _, _, _, _, _ => none
 | k + 1, x0, x1, x2, x4, x5, x14 => if x14 < (x0.length : Int) then (tattingref7_first.l1 k x0 x1 x2 x4 x5 x14 x4) else (some ((x0.length : Int), (x1.length : Int)))
def tattingref7_first.l1 : Nat → List Int → List Int → List (List Int) → Int → Int → Int → Int → Option (Int × Int)
 | 0, _, _, _, _, _, _, _ => none
 | k + 1, x0, x1, x2, x4, x5, x14, x15 => if x15 < (x1.length : Int) then (if 0 ≤ x14 then (if x14 < (x0.length : Int) then (if 0 ≤ x15 then (if (rd x0 x14) = (rd x1 x15) then (if 0 ≤ (wrap64 (x14 + 1)) then (if (wrap64 (x14 + 1)) < (x2.length : Int) then (if 0 ≤ (wrap64 (x15 + 1)) then (if (wrap64 (x15 + 1)) < ((rd_L2 x2 (wrap64 (x14 + 1))).length : Int) then (if (rd (rd_L2 x2 (wrap64 (x14 + 1))) (wrap64 (x15 + 1))) = (wrap64 (x5 - 1)) then (some (x14, x15)) else (tattingref7_first.l1 k x0 x1 x2 x4 x5 x14 (wrap64 (x15 + 1)))) else (none)) else (none)) else (none)) else (none)) else (tattingref7_first.l1 k x0 x1 x2 x4 x5 x14 (wrap64 (x15 + 1)))) else (none)) else (none)) else (none)) else (tattingref7_first.l0 k x0 x1 x2 x4 x5 (wrap64 (x14 + 1)))
end
def tattingref7_first.f (k : Nat) (l0 : List Int) (l1 : List Int) (l2 : List (List Int)) (a3 : Int) (a4 : Int) (a5 : Int) : Option (Int × Int) := tattingref7_first.l0 k l0 l1 l2 a4 a5 a3
theorem tattingref7_first.mono_l : ∀ k, (∀ y0 y1 y2 y3 y4 y5, LeO (tattingref7_first.l0 k y0 y1 y2 y3 y4 y5) (tattingref7_first.l0 (k + 1) y0 y1 y2 y3 y4 y5)) ∧ (∀ y0 y1 y2 y3 y4 y5 y6, LeO (tattingref7_first.l1 k y0 y1 y2 y3 y4 y5 y6) (tattingref7_first.l1 (k + 1) y0 y1 y2 y3 y4 y5 y6))
 | 0 => ⟨fun _ _ _ _ _ _ r h => by simp [tattingref7_first.l0] at h, fun _ _ _ _ _ _ _ r h => by simp [tattingref7_first.l1] at h⟩
 | k + 1 => by
  obtain ⟨ih0, ih1⟩ := tattingref7_first.mono_l k
  refine ⟨?_, ?_⟩
  ·intro y0 y1 y2 y3 y4 y5
   unfold tattingref7_first.l0
   repeat' first
   | (with_reducible exact ih0 _ _ _ _ _ _)
   | (with_reducible exact ih1 _ _ _ _ _ _ _)
   | (with_reducible exact LeO.refl _)
   | (with_reducible exact LeO.none _)
   | (with_reducible refine LeO.ite ?_ ?_)
   | (with_reducible refine LeO.bind ?_ (fun _ => ?_))
   | exact ih0 _ _ _ _ _ _
   | exact ih1 _ _ _ _ _ _ _
   | exact LeO.none _
   | refine LeO.ite ?_ ?_
   | refine LeO.bind ?_ (fun _ => ?_)
  ·intro y0 y1 y2 y3 y4 y5 y6
   unfold tattingref7_first.l1
   repeat' first
   | (with_reducible exact ih0 _ _ _ _ _ _)
   | (with_reducible exact ih1 _ _ _ _ _ _ _)
   | (with_reducible exact LeO.refl _)
   | (with_reducible exact LeO.none _)
   | (with_reducible refine LeO.ite ?_ ?_)
   | (with_reducible refine LeO.bind ?_ (fun _ => ?_))
   | exact ih0 _ _ _ _ _ _
   | exact ih1 _ _ _ _ _ _ _
   | exact LeO.none _
   | refine LeO.ite ?_ ?_
   | refine LeO.bind ?_ (fun _ => ?_)
theorem tattingref7_first.mono : ∀ a0 a1 a2 a3 a4 a5 k, LeO (tattingref7_first.f k a0 a1 a2 a3 a4 a5) (tattingref7_first.f (k + 1) a0 a1 a2 a3 a4 a5) := by
 intro a0 a1 a2 a3 a4 a5 k
 obtain ⟨ih0, ih1⟩ := tattingref7_first.mono_l k
 unfold tattingref7_first.f
 repeat' first
   | (with_reducible exact ih0 _ _ _ _ _ _)
   | (with_reducible exact ih1 _ _ _ _ _ _ _)
   | (with_reducible exact LeO.refl _)
   | (with_reducible exact LeO.none _)
   | (with_reducible refine LeO.ite ?_ ?_)
   | (with_reducible refine LeO.bind ?_ (fun _ => ?_))
   | exact ih0 _ _ _ _ _ _
   | exact ih1 _ _ _ _ _ _ _
   | exact LeO.none _
   | refine LeO.ite ?_ ?_
   | refine LeO.bind ?_ (fun _ => ?_)
set_option maxHeartbeats 8000000 in
set_option maxRecDepth 100000 in
theorem tattingref7_first.calls (k : Nat) (A0 : Option Addr) (c0 : Nat) (l0 : List Int) (A1 : Option Addr) (c1 : Nat) (l1 : List Int) (A2 : Option Addr) (c2 : Nat) (l2 : List (List Int)) (a3 : Int) (a4 : Int) (a5 : Int) (r1 : Int) (r2 : Int) (w : World) (hr0 : Kd.C (Kd.int .i64) w A0 l0.length l0) (hc0 : l0.length ≤ c0) (hr1 : Kd.C (Kd.int .i64) w A1 l1.length l1) (hc1 : l1.length ≤ c1) (hr2 : Kd.C (Kd.slice 3 (Kd.int .i64)) w A2 l2.length l2) (hc2 : l2.length ≤ c2) (h : tattingref7_first.f k l0 l1 l2 a3 a4 a5 = some (r1, r2)) :
  Calls Try.prog 30 #[.slice A0 l0.length c0, .slice A1 l1.length c1, .slice A2 l2.length c2, .int .i64 a3, .int .i64 a4, .int .i64 a5] w fun e w' => e = .returned (.tuple #[.int .i64 r1, .int .i64 r2]) ∧ Drawn0 w w' := by
 have HR0 := Aside0.mk hr0
 have HC0 := Aside0.mk hc0
 clear hr0 hc0
 have HR1 := Aside0.mk hr1
 have HC1 := Aside0.mk hc1
 clear hr1 hc1
 have HR2 := Aside0.mk hr2
 have HC2 := Aside0.mk hc2
 clear hr2 hc2
 have H : (tattingref7_first.l0 k l0 l1 l2 a4 a5 a3) = some (r1, r2) := h
 clear h
 have H' := Aside0.mk H
 clear H
 go_enter Try.func30, Try.ntmps30
 go_wp2
 repeat (go_quiet (fail); try go_wp2)
 go_loopg [14] k (fun kq v14 w' => ∃ (x14_1 : Int), v14 = .int .i64 x14_1 ∧ Aside0 (tattingref7_first.l0 kq l0 l1 l2 a4 a5 x14_1 = some (r1, r2)) ∧ Aside0 (kq ≤ k) ∧ Drawn0 w w')
 case atStart => exact ⟨(a3), (by first | rfl | (simp; done) | (simp [*]; done)), H', ⟨Nat.le_refl _⟩, by repeat (first | exact Drawn0.refl _ | apply Drawn0.step)⟩
 case round =>
  clear H'
  try clear c1
  try clear c2
  try clear p2
  try clear c3
  obtain ⟨x14_1, rfl, HA, HK1, ⟨m1, rfl⟩⟩ := hrel
  cases gk with
  | zero => exact absurd HA.out (by simp [tattingref7_first.l0])
  | succ k1 =>
   have H := HA.out
   clear HA
   simp only [tattingref7_first.l0] at H
   by_cases c7 : x14_1 < (l0.length : Int)
   ·rw [if_pos c7] at H
    have c7b0 : decide (x14_1 < (l0.length : Int)) = true := decide_eq_true c7
    clear c7
    have H' := Aside0.mk H
    clear H
    go_wp2
    repeat (go_quiet (fail); try go_wp2)
    go_loopg [15] k1 (fun kq v15 w' => ∃ (x15_2 : Int), v15 = .int .i64 x15_2 ∧ Aside0 (tattingref7_first.l1 kq l0 l1 l2 a4 a5 x14_1 x15_2 = some (r1, r2)) ∧ Aside0 (kq ≤ k1) ∧ Drawn0 w w')
    case atStart => exact ⟨(a4), (by first | rfl | (simp; done) | (simp [*]; done)), H', ⟨Nat.le_refl _⟩, by repeat (first | exact Drawn0.refl _ | apply Drawn0.step)⟩
    case round =>
     clear H'
     try clear c1
     try clear c2
     try clear p2
     try clear c3
     try clear c7
     try clear c7b0
     try clear p2
     obtain ⟨x15_2, rfl, HA, HK2, ⟨m2, rfl⟩⟩ := hrel
     cases gk with
     | zero => exact absurd HA.out (by simp [tattingref7_first.l1])
     | succ k2 =>
      have H := HA.out
      clear HA
      simp only [tattingref7_first.l1] at H
      by_cases c8 : x15_2 < (l1.length : Int)
      ·rw [if_pos c8] at H
       have c8b0 : decide (x15_2 < (l1.length : Int)) = true := decide_eq_true c8
       clear c8
       by_cases c9 : 0 ≤ x14_1
       ·rw [if_pos c9] at H
        have c9b0 : decide (0 ≤ x14_1) = true := decide_eq_true c9
        clear c9
        by_cases c10 : x14_1 < (l0.length : Int)
        ·rw [if_pos c10] at H
         have c10b0 : decide (x14_1 < (l0.length : Int)) = true := decide_eq_true c10
         clear c10
         by_cases c11 : 0 ≤ x15_2
         ·rw [if_pos c11] at H
          have c11b0 : decide (0 ≤ x15_2) = true := decide_eq_true c11
          clear c11
          by_cases c12 : (rd l0 x14_1) = (rd l1 x15_2)
          ·rw [if_pos c12] at H
           have c12b0 : ((rd l0 x14_1) == (rd l1 x15_2)) = true := beq_iff_eq.mpr c12
           have c12b1 : ((rd l0 x14_1) != (rd l1 x15_2)) = false := bne_eq_false_iff_eq.mpr c12
           clear c12
           obtain ⟨ji13, hji13⟩ : ∃ j_ : Int, (wrap64 (x14_1 + 1)) = j_ := ⟨_, rfl⟩
           replace H : (if 0 ≤ (ji13) then (if (ji13) < (l2.length : Int) then (if 0 ≤ (wrap64 (x15_2 + 1)) then (if (wrap64 (x15_2 + 1)) < ((rd_L2 l2 (ji13)).length : Int) then (if (rd (rd_L2 l2 (ji13)) (wrap64 (x15_2 + 1))) = (wrap64 (a5 - 1)) then (some (x14_1, x15_2)) else (tattingref7_first.l1 k2 l0 l1 l2 a4 a5 x14_1 (wrap64 (x15_2 + 1)))) else (none)) else (none)) else (none)) else (none)) = some (r1, r2) := by first | (rw [hji13] at H; exact H) | (simp only [hji13] at H ⊢; exact H)
           have hji13w : (IntKind.i64.wrap (x14_1 + 1)) = ji13 := (i64_w _).trans hji13
           by_cases c14 : 0 ≤ (ji13)
           ·rw [if_pos c14] at H
            have c14b0 : decide (0 ≤ (ji13)) = true := decide_eq_true c14
            clear c14
            by_cases c15 : (ji13) < (l2.length : Int)
            ·rw [if_pos c15] at H
             have c15b0 : decide ((ji13) < (l2.length : Int)) = true := decide_eq_true c15
             clear c15
             obtain ⟨ji16, hji16⟩ : ∃ j_ : Int, (wrap64 (x15_2 + 1)) = j_ := ⟨_, rfl⟩
             replace H : (if 0 ≤ (ji16) then (if (ji16) < ((rd_L2 l2 (ji13)).length : Int) then (if (rd (rd_L2 l2 (ji13)) (ji16)) = (wrap64 (a5 - 1)) then (some (x14_1, x15_2)) else (tattingref7_first.l1 k2 l0 l1 l2 a4 a5 x14_1 ji16)) else (none)) else (none)) = some (r1, r2) := by first | (rw [hji16] at H; exact H) | (simp only [hji16] at H ⊢; exact H)
             have hji16w : (IntKind.i64.wrap (x15_2 + 1)) = ji16 := (i64_w _).trans hji16
             by_cases c17 : 0 ≤ (ji16)
             ·rw [if_pos c17] at H
              have c17b0 : decide (0 ≤ (ji16)) = true := decide_eq_true c17
              clear c17
              by_cases c18 : (ji16) < ((rd_L2 l2 (ji13)).length : Int)
              ·rw [if_pos c18] at H
               have c18b0 : decide ((ji16) < ((rd_L2 l2 (ji13)).length : Int)) = true := decide_eq_true c18
               clear c18
               by_cases c19 : (rd (rd_L2 l2 (ji13)) (ji16)) = (wrap64 (a5 - 1))
               ·rw [if_pos c19] at H
                have c19b0 : ((rd (rd_L2 l2 (ji13)) (ji16)) == (wrap64 (a5 - 1))) = true := beq_iff_eq.mpr c19
                have c19b1 : ((rd (rd_L2 l2 (ji13)) (ji16)) != (wrap64 (a5 - 1))) = false := bne_eq_false_iff_eq.mpr c19
                clear c19
                simp only [Option.some.injEq, Prod.mk.injEq] at H
                obtain ⟨rfl, rfl⟩ := H
                have p268 : 0 ≤ (x14_1 : Int) := of_decide_eq_true (by first | (with_reducible assumption) | assumption)
                have q268 : x14_1 < (l0.length : Int) := of_decide_eq_true (by first | (with_reducible assumption) | assumption)
                obtain ⟨ad268, e268, hx268_0⟩ := Kd.at_int HR0.out x14_1 p268 q268
                cases e268
                replace p268 := eq_true p268
                replace q268 := eq_true q268
                have p269 : 0 ≤ (x15_2 : Int) := of_decide_eq_true (by first | (with_reducible assumption) | assumption)
                have q269 : x15_2 < (l1.length : Int) := of_decide_eq_true (by first | (with_reducible assumption) | assumption)
                obtain ⟨ad269, e269, hx269_0⟩ := Kd.at_int HR1.out x15_2 p269 q269
                cases e269
                replace p269 := eq_true p269
                replace q269 := eq_true q269
                have p270 : 0 ≤ ((ji13) : Int) := of_decide_eq_true (by first | (with_reducible assumption) | assumption)
                have q270 : (ji13) < (l2.length : Int) := of_decide_eq_true (by first | (with_reducible assumption) | assumption)
                obtain ⟨ad270, A270_0, c270_0, e270, hx270_0, hl270_0, hi270_0⟩ := at_L2 HR2.out (ji13) p270 q270
                cases e270
                have HR270_0 := Aside0.mk hi270_0
                have HC270_0 := Aside0.mk hl270_0
                clear hi270_0 hl270_0
                replace p270 := eq_true p270
                replace q270 := eq_true q270
                have p271 : 0 ≤ ((ji16) : Int) := of_decide_eq_true (by first | (with_reducible assumption) | assumption)
                have q271 : (ji16) < ((rd_L2 l2 (ji13)).length : Int) := of_decide_eq_true (by first | (with_reducible assumption) | assumption)
                obtain ⟨ad271, e271, hx271_0⟩ := Kd.at_int HR270_0.out (ji16) p271 q271
                cases e271
                replace p271 := eq_true p271
                replace q271 := eq_true q271
                go_wp2
                repeat (go_quiet (fail); try go_wp2)
                go_ret2
                exact ⟨by first | rfl | (simp; done) | (simp only [← hji13, ← hji16] <;> (first | rfl | simp)) | (simp [*]; done), by repeat (first | exact Drawn0.refl _ | apply Drawn0.step)⟩
               ·rw [if_neg c19] at H
                have c19b0 : ((rd (rd_L2 l2 (ji13)) (ji16)) == (wrap64 (a5 - 1))) = false := beq_eq_false_iff_ne.mpr c19
                have c19b1 : ((rd (rd_L2 l2 (ji13)) (ji16)) != (wrap64 (a5 - 1))) = true := bne_iff_ne.mpr c19
                have H' := Aside0.mk H
                clear H
                have p268 : 0 ≤ (x14_1 : Int) := of_decide_eq_true (by first | (with_reducible assumption) | assumption)
                have q268 : x14_1 < (l0.length : Int) := of_decide_eq_true (by first | (with_reducible assumption) | assumption)
                obtain ⟨ad268, e268, hx268_0⟩ := Kd.at_int HR0.out x14_1 p268 q268
                cases e268
                replace p268 := eq_true p268
                replace q268 := eq_true q268
                have p269 : 0 ≤ (x15_2 : Int) := of_decide_eq_true (by first | (with_reducible assumption) | assumption)
                have q269 : x15_2 < (l1.length : Int) := of_decide_eq_true (by first | (with_reducible assumption) | assumption)
                obtain ⟨ad269, e269, hx269_0⟩ := Kd.at_int HR1.out x15_2 p269 q269
                cases e269
                replace p269 := eq_true p269
                replace q269 := eq_true q269
                have p270 : 0 ≤ ((ji13) : Int) := of_decide_eq_true (by first | (with_reducible assumption) | assumption)
                have q270 : (ji13) < (l2.length : Int) := of_decide_eq_true (by first | (with_reducible assumption) | assumption)
                obtain ⟨ad270, A270_0, c270_0, e270, hx270_0, hl270_0, hi270_0⟩ := at_L2 HR2.out (ji13) p270 q270
                cases e270
                have HR270_0 := Aside0.mk hi270_0
                have HC270_0 := Aside0.mk hl270_0
                clear hi270_0 hl270_0
                replace p270 := eq_true p270
                replace q270 := eq_true q270
                have p271 : 0 ≤ ((ji16) : Int) := of_decide_eq_true (by first | (with_reducible assumption) | assumption)
                have q271 : (ji16) < ((rd_L2 l2 (ji13)).length : Int) := of_decide_eq_true (by first | (with_reducible assumption) | assumption)
                obtain ⟨ad271, e271, hx271_0⟩ := Kd.at_int HR270_0.out (ji16) p271 q271
                cases e271
                replace p271 := eq_true p271
                replace q271 := eq_true q271
                go_wp2
                repeat (go_quiet (fail); try go_wp2)
                go_roundg k2
                case measure => have := HK1.out; have := HK2.out; omega
                case rel => exact ⟨(ji16), (by first | rfl | (simp; done) | (simp only [← hji16] <;> (first | rfl | simp)) | (simp [*]; done)), H', ⟨by have := HK1.out; have := HK2.out; omega⟩, by repeat (first | exact Drawn0.refl _ | apply Drawn0.step)⟩
              ·rw [if_neg c18] at H
               exact absurd H (by simp)
             ·rw [if_neg c17] at H
              exact absurd H (by simp)
            ·rw [if_neg c15] at H
             exact absurd H (by simp)
           ·rw [if_neg c14] at H
            exact absurd H (by simp)
          ·rw [if_neg c12] at H
           have c12b0 : ((rd l0 x14_1) == (rd l1 x15_2)) = false := beq_eq_false_iff_ne.mpr c12
           have c12b1 : ((rd l0 x14_1) != (rd l1 x15_2)) = true := bne_iff_ne.mpr c12
           have H' := Aside0.mk H
           clear H
           have p268 : 0 ≤ (x14_1 : Int) := of_decide_eq_true (by first | (with_reducible assumption) | assumption)
           have q268 : x14_1 < (l0.length : Int) := of_decide_eq_true (by first | (with_reducible assumption) | assumption)
           obtain ⟨ad268, e268, hx268_0⟩ := Kd.at_int HR0.out x14_1 p268 q268
           cases e268
           replace p268 := eq_true p268
           replace q268 := eq_true q268
           have p269 : 0 ≤ (x15_2 : Int) := of_decide_eq_true (by first | (with_reducible assumption) | assumption)
           have q269 : x15_2 < (l1.length : Int) := of_decide_eq_true (by first | (with_reducible assumption) | assumption)
           obtain ⟨ad269, e269, hx269_0⟩ := Kd.at_int HR1.out x15_2 p269 q269
           cases e269
           replace p269 := eq_true p269
           replace q269 := eq_true q269
           go_wp2
           repeat (go_quiet (fail); try go_wp2)
           go_roundg k2
           case measure => have := HK1.out; have := HK2.out; omega
           case rel => exact ⟨(wrap64 (x15_2 + 1)), (by first | rfl | (simp; done) | (simp [*]; done)), H', ⟨by have := HK1.out; have := HK2.out; omega⟩, by repeat (first | exact Drawn0.refl _ | apply Drawn0.step)⟩
         ·rw [if_neg c11] at H
          exact absurd H (by simp)
        ·rw [if_neg c10] at H
         exact absurd H (by simp)
       ·rw [if_neg c9] at H
        exact absurd H (by simp)
      ·rw [if_neg c8] at H
       have c8b0 : decide (x15_2 < (l1.length : Int)) = false := decide_eq_false c8
       clear c8
       have H' := Aside0.mk H
       clear H
       go_wp2
       repeat (go_quiet (fail); try go_wp2)
       go_roundg k2
       case measure => have := HK1.out; have := HK2.out; omega
       case rel => exact ⟨(wrap64 (x14_1 + 1)), (by first | rfl | (simp; done) | (simp [*]; done)), H', ⟨by have := HK1.out; have := HK2.out; omega⟩, by repeat (first | exact Drawn0.refl _ | apply Drawn0.step)⟩
   ·rw [if_neg c7] at H
    have c7b0 : decide (x14_1 < (l0.length : Int)) = false := decide_eq_false c7
    clear c7
    simp only [Option.some.injEq, Prod.mk.injEq] at H
    obtain ⟨rfl, rfl⟩ := H
    go_wp2
    repeat (go_quiet (fail); try go_wp2)
    go_ret2
    exact ⟨by first | rfl | (simp; done) | (simp [*]; done), by repeat (first | exact Drawn0.refl _ | apply Drawn0.step)⟩

/-! ### tattingref7_Least: function 17 -/
def tattingref7_Least.l0 : Nat → List Int → List Int → List (List Int) → List (S28) → Int → Int → Int → Option ((List (S28)))
 | 0, _, _, _, _, _, _, _ => none
 | k + 1, x0, x1, x5, x6, x7, x8, x9 => if x9 > 0 then ((tattingref7_first.f k x0 x1 x5 x7 x8 x9).bind fun bt277 => (if x6.length < 8796093022208 then (tattingref7_Least.l0 k x0 x1 x5 (x6 ++ [(⟨bt277.1, bt277.2⟩ : S28)]) (wrap64 (bt277.1 + 1)) (wrap64 (bt277.2 + 1)) (wrap64 (x9 - 1))) else (none))) else (some x6)
def tattingref7_Least.f (k : Nat) (l0 : List Int) (l1 : List Int) : Option ((List (S28))) := (tattingref7_Behind.f k l0 l1).bind fun t272 => (if 0 < (t272.length : Int) then (if 0 < ((rd_L2 t272 0).length : Int) then (tattingref7_Least.l0 k l0 l1 t272 ([] : List (S28)) 0 0 (rd (rd_L2 t272 0) 0)) else (none)) else (none))
theorem tattingref7_Least.mono_l : ∀ k, (∀ y0 y1 y2 y3 y4 y5 y6, LeO (tattingref7_Least.l0 k y0 y1 y2 y3 y4 y5 y6) (tattingref7_Least.l0 (k + 1) y0 y1 y2 y3 y4 y5 y6))
 | 0 => fun _ _ _ _ _ _ _ r h => by simp [tattingref7_Least.l0] at h
 | k + 1 => by
  have ih0 := tattingref7_Least.mono_l k
  ·intro y0 y1 y2 y3 y4 y5 y6
   unfold tattingref7_Least.l0
   repeat' first
   | (with_reducible exact ih0 _ _ _ _ _ _ _)
   | (with_reducible exact tattingref7_Behind.mono _ _ _)
   | (with_reducible exact tattingref7_first.mono _ _ _ _ _ _ _)
   | (with_reducible exact LeO.refl _)
   | (with_reducible exact LeO.none _)
   | (with_reducible refine LeO.ite ?_ ?_)
   | (with_reducible refine LeO.bind ?_ (fun _ => ?_))
   | exact ih0 _ _ _ _ _ _ _
   | exact tattingref7_Behind.mono _ _ _
   | exact tattingref7_first.mono _ _ _ _ _ _ _
   | exact LeO.none _
   | refine LeO.ite ?_ ?_
   | refine LeO.bind ?_ (fun _ => ?_)
theorem tattingref7_Least.mono : ∀ a0 a1 k, LeO (tattingref7_Least.f k a0 a1) (tattingref7_Least.f (k + 1) a0 a1) := by
 intro a0 a1 k
 have ih0 := tattingref7_Least.mono_l k
 unfold tattingref7_Least.f
 repeat' first
   | (with_reducible exact ih0 _ _ _ _ _ _ _)
   | (with_reducible exact tattingref7_Behind.mono _ _ _)
   | (with_reducible exact tattingref7_first.mono _ _ _ _ _ _ _)
   | (with_reducible exact LeO.refl _)
   | (with_reducible exact LeO.none _)
   | (with_reducible refine LeO.ite ?_ ?_)
   | (with_reducible refine LeO.bind ?_ (fun _ => ?_))
   | exact ih0 _ _ _ _ _ _ _
   | exact tattingref7_Behind.mono _ _ _
   | exact tattingref7_first.mono _ _ _ _ _ _ _
   | exact LeO.none _
   | refine LeO.ite ?_ ?_
   | refine LeO.bind ?_ (fun _ => ?_)
set_option maxHeartbeats 8000000 in
set_option maxRecDepth 100000 in
theorem tattingref7_Least.calls (k : Nat) (A0 : Option Addr) (c0 : Nat) (l0 : List Int) (A1 : Option Addr) (c1 : Nat) (l1 : List Int) (r : List (S28)) (w : World) (hr0 : Kd.C (Kd.int .i64) w A0 l0.length l0) (hc0 : l0.length ≤ c0) (hr1 : Kd.C (Kd.int .i64) w A1 l1.length l1) (hc1 : l1.length ≤ c1) (h : tattingref7_Least.f k l0 l1 = some r) :
  Calls Try.prog 17 #[.slice A0 l0.length c0, .slice A1 l1.length c1] w fun e w' => ∃ v0_ : Value, e = .returned (v0_) ∧ Kd.R k28 28 w' w.heap.size (fun _ => True) v0_ r ∧ Below w.heap.size w w' := by
 have hu28 := Try.underlying28
 have HR0 := Aside0.mk hr0
 have HC0 := Aside0.mk hc0
 clear hr0 hc0
 have HR1 := Aside0.mk hr1
 have HC1 := Aside0.mk hc1
 clear hr1 hc1
 have HB := Aside0.mk (Below.refl w.heap.size w)
 have H : ((tattingref7_Behind.f k l0 l1).bind fun t272 => (if 0 < (t272.length : Int) then (if 0 < ((rd_L2 t272 0).length : Int) then (tattingref7_Least.l0 k l0 l1 t272 ([] : List (S28)) 0 0 (rd (rd_L2 t272 0) 0)) else (none)) else (none))) = some r := h
 clear h
 replace H := Option.bind_eq_some_iff.mp H
 obtain ⟨t272, A30, H⟩ := H
 replace H : (if 0 < (t272.length : Int) then (if 0 < ((rd_L2 t272 0).length : Int) then (tattingref7_Least.l0 k l0 l1 t272 ([] : List (S28)) 0 0 (rd (rd_L2 t272 0) 0)) else (none)) else (none)) = some r := H
 have A3 := Aside0.mk A30
 clear A30
 by_cases c4 : 0 < (t272.length : Int)
 ·rw [if_pos c4] at H
  have c4b0 : decide (0 < (t272.length : Int)) = true := decide_eq_true c4
  have c4b1 : decide (0 < t272.length) = true := decide_eq_true (by omega)
  clear c4
  by_cases c5 : 0 < ((rd_L2 t272 0).length : Int)
  ·rw [if_pos c5] at H
   have c5b0 : decide (0 < ((rd_L2 t272 0).length : Int)) = true := decide_eq_true c5
   have c5b1 : decide (0 < (rd_L2 t272 0).length) = true := decide_eq_true (by omega)
   clear c5
   have H' := Aside0.mk H
   clear H
   go_enter Try.func17, Try.ntmps17
   go_wp2_with (first | ((first | (with_reducible refine gate_callee (f := 29) rfl ?_); refine goesL_ (some 14) rfl rfl Try.func29 (by kernel_rfl) rfl #[.slice A0 l0.length c0, .slice A1 l1.length c1] rfl (by (try simp only [List.map_toArray, List.map_cons, List.map_nil]); first | done | rfl | (simp only [List.length_drop, List.length_take]; rfl)) ?_ | go_at_call 29); (with_reducible refine (tattingref7_Behind.calls k _ _ l0 _ _ l1 t272 _ ?side1 ?side2 ?side3 ?side4 A3.out).mono ?_); (case side1 => repeat (first | exact HR0.out | (with_reducible refine Kd.C_alloc ?_ _) | (with_reducible refine Kd.C_drewN ?_ _) | (with_reducible refine Kd.C_drew ?_))); (case side2 => exact HC0.out); (case side3 => repeat (first | exact HR1.out | (with_reducible refine Kd.C_alloc ?_ _) | (with_reducible refine Kd.C_drewN ?_ _) | (with_reducible refine Kd.C_drew ?_))); (case side4 => exact HC1.out); rintro e w6 ⟨v273, rfl, ho0, hb⟩; (try refine ⟨_, rfl, ?_⟩); have n0_ := Aside0.mk (Kd.S_lower ho0 (below_size (by repeat (first | (with_reducible first | exact HB.out | apply below_alloc | apply pw_below_drewN | apply below_drew1) | exact HB.out)))); have n1_ := Aside0.mk (below_step (by repeat (first | (with_reducible first | exact HB.out | apply below_alloc | apply pw_below_drewN | apply below_drew1) | exact HB.out)) hb); clear HB; have HO274 := n0_; have HB := n1_; clear n0_ n1_; (try clear hb); (try clear hb2); (try clear hk); (try clear hi); (try clear ho0); obtain ⟨Ao7, co7, eo7⟩ := Kd.S_slice HO274.out; subst eo7; have p275 : 0 ≤ (0 : Int) := (by omega); have q275 : 0 < (t272.length : Int) := of_decide_eq_true (by first | (with_reducible assumption) | assumption); obtain ⟨ad275, A275_0, c275_0, e275, hx275_0, hl275_0, hi275_0⟩ := at_L2 (Kd.S_reads' HO274.out).2.2 0 p275 q275; cases e275; obtain ⟨ce275, hce275, hMe275, hcc275⟩ := Kd.S_get HO274.out [] 0 p275 (by first | exact q275 | exact of_decide_eq_true (by first | (with_reducible assumption) | assumption) | (have e_ := (Kd.S_reads' HO274.out).1; omega)); obtain ⟨ve275_0, rfl, ge275_0⟩ := hMe275; have hv275_0 := hcc275 0 _ rfl; rw [Nat.add_zero, show ((Kd.slice 3 (Kd.int .i64))).sz = 1 from rfl, Nat.mul_one] at hv275_0; replace hv275_0 := Option.some.inj (hv275_0.symm.trans hx275_0); rw [hv275_0] at ge275_0; have HL275_0 := Aside0.mk (show Kd.R (Kd.int .i64) 3 _ _ _ _ (rd_L2 t272 0) from ge275_0); clear hv275_0 ge275_0; (try clear hcc275); (try clear hce275); have qi275 : (0 < t272.length) = True := eq_true (by omega); (try rw [show ((0 : Int)).toNat = 0 from rfl] at hx275_0); (try rw [Addr.add_zero'] at hx275_0); have HR275_0 := Aside0.mk hi275_0; have HC275_0 := Aside0.mk hl275_0; (try clear hi275_0); (try clear hl275_0); replace p275 := eq_true p275; replace q275 := eq_true q275; have p276 : 0 ≤ (0 : Int) := (by omega); have q276 : 0 < ((rd_L2 t272 0).length : Int) := of_decide_eq_true (by first | (with_reducible assumption) | assumption); obtain ⟨ad276, e276, hx276_0⟩ := Kd.at_int (by repeat (first | (with_reducible exact HR275_0.out) | (with_reducible refine Kd.C_alloc ?_ _) | (with_reducible refine Kd.C_drewN ?_ _) | (with_reducible refine Kd.C_drew ?_) | exact HR275_0.out)) 0 p276 q276; cases e276; have qi276 : (0 < (rd_L2 t272 0).length) = True := eq_true (by omega); (try rw [show ((0 : Int)).toNat = 0 from rfl] at hx276_0); (try rw [Addr.add_zero'] at hx276_0); replace p276 := eq_true p276; replace q276 := eq_true q276))
   go_loopg [6, 7, 8, 9] k (fun kq v6 v7 v8 v9 w' => ∃ (x6_1 : List (S28)) (x7_1 : Int) (x8_1 : Int) (x9_1 : Int), v7 = .int .i64 x7_1 ∧ v8 = .int .i64 x8_1 ∧ v9 = .int .i64 x9_1 ∧ Aside0 (tattingref7_Least.l0 kq l0 l1 t272 x6_1 x7_1 x8_1 x9_1 = some r) ∧ Aside0 (kq ≤ k) ∧ Aside0 (Kd.S (Kd.slice 3 (Kd.int .i64)) 26 w' w.heap.size (fun _ => True) (.slice (some ad275) t272.length co7) t272) ∧ Aside0 (Kd.R k28 28 w' w.heap.size (fun _ => True) v6 x6_1) ∧ Aside0 (Below w.heap.size w w'))
   case atStart => exact ⟨(([] : List (S28))), (0), (0), (rd (rd_L2 t272 0) 0), (by first | rfl | (simp; done) | (simp [*]; done)), (by first | rfl | (simp; done) | (simp [*]; done)), (by first | rfl | (simp; done) | (simp [*]; done)), H', ⟨Nat.le_refl _⟩, ⟨by (with_reducible repeat (first | apply Kd.S_alloc | apply Kd.S_drewN | apply Kd.S_drew)); exact HO274.out⟩, ⟨by first | exact Kd.R_nil _ _ _ _ _ | exact Kd.N_nil _ _ _ _ _ | exact Kd.V_nil _ _ _ _ _ | exact Kd.Q_nil _ _ _ _ _ | exact Kd.S_nil _ _ _ _ _⟩, ⟨by repeat (first | (with_reducible first | exact HB.out | apply below_alloc | apply pw_below_drewN | apply below_drew1) | exact HB.out)⟩⟩
   case round =>
    clear H'
    try clear c1
    try clear c2
    try clear p2
    try clear q2
    try clear hx2
    try clear qi2
    try clear c4
    try clear c4b0
    try clear c4b1
    try clear c5
    try clear c5b0
    try clear c5b1
    try clear hx275_0
    try clear hx276_0
    try clear p275
    try clear p276
    try clear q275
    try clear q276
    obtain ⟨x6_1, x7_1, x8_1, x9_1, rfl, rfl, rfl, HA, HK1, HO_5, HO_6, HB⟩ := hrel
    cases gk with
    | zero => exact absurd HA.out (by simp [tattingref7_Least.l0])
    | succ k1 =>
     have H := HA.out
     clear HA
     simp only [tattingref7_Least.l0] at H
     by_cases c8 : x9_1 > 0
     ·rw [if_pos c8] at H
      have c8b0 : decide (0 < x9_1) = true := decide_eq_true c8
      clear c8
      replace H := Option.bind_eq_some_iff.mp H
      obtain ⟨⟨t277, t278⟩, A90, H⟩ := H
      replace H : (if x6_1.length < 8796093022208 then (tattingref7_Least.l0 k1 l0 l1 t272 (x6_1 ++ [(⟨t277, t278⟩ : S28)]) (wrap64 (t277 + 1)) (wrap64 (t278 + 1)) (wrap64 (x9_1 - 1))) else (none)) = some r := H
      have A9 := Aside0.mk A90
      clear A90
      by_cases c10 : x6_1.length < 8796093022208
      ·rw [if_pos c10] at H
       have LMc10 := Aside0.mk c10
       clear c10
       obtain ⟨y279, hy279⟩ : ∃ y_ : List (S28), y_ = (x6_1 ++ [(⟨t277, t278⟩ : S28)]) := ⟨_, rfl⟩
       replace H : (tattingref7_Least.l0 k1 l0 l1 t272 y279 (wrap64 (t277 + 1)) (wrap64 (t278 + 1)) (wrap64 (x9_1 - 1))) = some r := by first | (rw [hy279]; with_reducible exact H) | (have H2_ := (Option.bind_some _ _).symm.trans H; rw [hy279]; with_reducible exact H2_) | (have H2_ := (Option.bind_some _ _).symm.trans H; with_reducible exact H2_) | with_reducible exact H | (rw [hy279]; exact H) | exact H
       have Ny279 := Aside0.mk hy279
       clear hy279
       have H' := Aside0.mk H
       clear H
       go_wp2_with (first | ((first | (with_reducible refine gate_callee (f := 30) rfl ?_); refine goesL_ (some 31) rfl rfl Try.func30 (by kernel_rfl) rfl #[.slice A0 l0.length c0, .slice A1 l1.length c1, .slice (some ad275) t272.length co7, .int .i64 x7_1, .int .i64 x8_1, .int .i64 x9_1] rfl (by (try simp only [List.map_toArray, List.map_cons, List.map_nil]); first | done | rfl | (simp only [List.length_drop, List.length_take]; rfl)) ?_ | go_at_call 30); (with_reducible refine (tattingref7_first.calls k1 _ _ l0 _ _ l1 _ _ t272 x7_1 x8_1 x9_1 t277 t278 _ ?side1 ?side2 ?side3 ?side4 ?side5 ?side6 A9.out).mono ?_); (case side1 => repeat (first | exact (Kd.C_below HR0.out HB.out) | (with_reducible refine Kd.C_alloc ?_ _) | (with_reducible refine Kd.C_drewN ?_ _) | (with_reducible refine Kd.C_drew ?_))); (case side2 => exact HC0.out); (case side3 => repeat (first | exact (Kd.C_below HR1.out HB.out) | (with_reducible refine Kd.C_alloc ?_ _) | (with_reducible refine Kd.C_drewN ?_ _) | (with_reducible refine Kd.C_drew ?_))); (case side4 => exact HC1.out); (case side5 => repeat (first | exact (Kd.S_reads' HO_5.out).2.2 | (with_reducible refine Kd.C_alloc ?_ _) | (with_reducible refine Kd.C_drewN ?_ _) | (with_reducible refine Kd.C_drew ?_))); (case side6 => exact (Kd.S_reads' HO_5.out).2.1); rintro e w' ⟨rfl, ⟨nd, rfl⟩⟩; (try refine ⟨_, rfl, ?_⟩)) | ((with_reducible refine gate_builtin (b := .append) (xs := #[.tmp 34, .tmp 38]) rfl ?_); at_builtin; refine Kd.R_append k28 (w0 := w) w.heap.size rfl (.tmp 34) (.tmp 38) 22 28 (.agg #[(.int .i64 0), (.int .i64 0)]) 16 rfl Try.underlying22 info28 rfl (by decide) (by omega) u6 x6_1 (⟨t277, t278⟩ : S28) [.int .i64 t277, .int .i64 t278] (fun _ => True) (fun _ => False) rfl rfl ?aP (fun _ hk => hk.elim) ?aF ?aO ?aB ?aS ?aL ?_; (case aP => exact k28_mkM _ _ _ (⟨t277, t278⟩ : S28)); (case aB => exact (by repeat (first | (with_reducible first | exact HB.out | apply below_alloc | apply pw_below_drewN | apply below_drew1) | exact HB.out))); (case aF => exact (fun _ _ => trivial)); (case aO => exact (by (with_reducible repeat (first | apply Kd.R_alloc | apply Kd.R_drewN | apply Kd.R_drew)); exact HO_6.out)); (case aS => exact (below_size (by repeat (first | (with_reducible first | exact HB.out | apply below_alloc | apply pw_below_drewN | apply below_drew1) | exact HB.out)))); (case aL => have := LMc10.out; omega); intro v280 w11 ho hb hg hat; rw [← Ny279.out] at ho; have n0_ := Aside0.mk (Kd.S_over' (by (with_reducible repeat (first | apply Kd.S_alloc | apply Kd.S_drewN | apply Kd.S_drew)); exact HO_5.out) (Kd.R_typed (by (with_reducible repeat (first | apply Kd.R_alloc | apply Kd.R_drewN | apply Kd.R_drew)); exact HO_6.out)) (by decide) hg); have n1_ := Aside0.mk (hb); have n2_ := Aside0.mk (ho); clear HO_5; clear HB; clear HO_6; have HO_5 := n0_; have HB := n1_; have HO281 := n2_; clear n0_ n1_ n2_; (try clear ho); (try clear hb); (try clear hg); (try clear hat)))
       go_roundg k1
       case measure => have := HK1.out; omega
       case rel => exact ⟨(y279), (wrap64 (t277 + 1)), (wrap64 (t278 + 1)), (wrap64 (x9_1 - 1)), (by first | rfl | (simp; done) | (simp [*]; done)), (by first | rfl | (simp; done) | (simp [*]; done)), (by first | rfl | (simp; done) | (simp [*]; done)), H', ⟨by have := HK1.out; omega⟩, ⟨by (with_reducible repeat (first | apply Kd.S_alloc | apply Kd.S_drewN | apply Kd.S_drew)); exact HO_5.out⟩, ⟨by (with_reducible repeat (first | apply Kd.R_alloc | apply Kd.R_drewN | apply Kd.R_drew)); exact HO281.out⟩, ⟨by repeat (first | (with_reducible first | exact HB.out | apply below_alloc | apply pw_below_drewN | apply below_drew1) | exact HB.out)⟩⟩
      ·rw [if_neg c10] at H
       exact absurd H (by simp)
     ·rw [if_neg c8] at H
      have c8b0 : decide (0 < x9_1) = false := decide_eq_false c8
      clear c8
      obtain rfl := Option.some.inj H
      go_wp2
      go_ret
      exact ⟨_, by first | rfl | (simp [errW_none, errW_some] <;> rfl) | (simp [*, errW_none, errW_some] <;> rfl), by (with_reducible repeat (first | apply Kd.R_alloc | apply Kd.R_drewN | apply Kd.R_drew)); exact HO_6.out, by repeat (first | (with_reducible first | exact HB.out | apply below_alloc | apply pw_below_drewN | apply below_drew1) | exact HB.out)⟩
  ·rw [if_neg c5] at H
   exact absurd H (by simp)
 ·rw [if_neg c4] at H
  exact absurd H (by simp)

/-! ### tattingref7_Split: function 31 -/
mutual
def tattingref7_Split.j0 : Nat → List Int → List Int → Bool → Option (Int × Int)
 | 0, _, _, _ => none
 | k + 1, x0, x1, x17 => if x17 = true then (some (0, 0)) else (tattingref7_Split.l0 k x0 x1 0 1)
def tattingref7_Split.l0 : Nat → List Int → List Int → Int → Int → Option (Int × Int)
 | 0, _, _, _, _ => none
 | k + 1, x0, x1, x6, x7 => if x7 < (x0.length : Int) then (if 0 ≤ x7 then (if x7 < (x1.length : Int) then (if 0 ≤ x6 then (if x6 < (x0.length : Int) then (if x6 < (x1.length : Int) then (if (wrap64 ((rd x0 x7) + (rd x1 x7))) > (wrap64 ((rd x0 x6) + (rd x1 x6))) then (tattingref7_Split.l0 k x0 x1 x7 (wrap64 (x7 + 1))) else (tattingref7_Split.l0 k x0 x1 x6 (wrap64 (x7 + 1)))) else (none)) else (none)) else (none)) else (none)) else (none)) else (if 0 ≤ x6 then (if x6 < (x0.length : Int) then (if x6 < (x1.length : Int) then (some (x6, wrap64 ((rd x0 x6) + (rd x1 x6)))) else (none)) else (none)) else (none))
end
def tattingref7_Split.f (k : Nat) (l0 : List Int) (l1 : List Int) : Option (Int × Int) := if (l0.length : Int) = (l1.length : Int) then (tattingref7_Split.j0 k l0 l1 ((l0.length : Int) == 0)) else (tattingref7_Split.j0 k l0 l1 true)
theorem tattingref7_Split.mono_l : ∀ k, (∀ y0 y1 y2, LeO (tattingref7_Split.j0 k y0 y1 y2) (tattingref7_Split.j0 (k + 1) y0 y1 y2)) ∧ (∀ y0 y1 y2 y3, LeO (tattingref7_Split.l0 k y0 y1 y2 y3) (tattingref7_Split.l0 (k + 1) y0 y1 y2 y3))
 | 0 => ⟨fun _ _ _ r h => by simp [tattingref7_Split.j0] at h, fun _ _ _ _ r h => by simp [tattingref7_Split.l0] at h⟩
 | k + 1 => by
  obtain ⟨ih0, ih1⟩ := tattingref7_Split.mono_l k
  refine ⟨?_, ?_⟩
  ·intro y0 y1 y2
   unfold tattingref7_Split.j0
   repeat' first
   | (with_reducible exact ih0 _ _ _)
   | (with_reducible exact ih1 _ _ _ _)
   | (with_reducible exact LeO.refl _)
   | (with_reducible exact LeO.none _)
   | (with_reducible refine LeO.ite ?_ ?_)
   | (with_reducible refine LeO.bind ?_ (fun _ => ?_))
   | exact ih0 _ _ _
   | exact ih1 _ _ _ _
   | exact LeO.none _
   | refine LeO.ite ?_ ?_
   | refine LeO.bind ?_ (fun _ => ?_)
  ·intro y0 y1 y2 y3
   unfold tattingref7_Split.l0
   repeat' first
   | (with_reducible exact ih0 _ _ _)
   | (with_reducible exact ih1 _ _ _ _)
   | (with_reducible exact LeO.refl _)
   | (with_reducible exact LeO.none _)
   | (with_reducible refine LeO.ite ?_ ?_)
   | (with_reducible refine LeO.bind ?_ (fun _ => ?_))
   | exact ih0 _ _ _
   | exact ih1 _ _ _ _
   | exact LeO.none _
   | refine LeO.ite ?_ ?_
   | refine LeO.bind ?_ (fun _ => ?_)
theorem tattingref7_Split.mono : ∀ a0 a1 k, LeO (tattingref7_Split.f k a0 a1) (tattingref7_Split.f (k + 1) a0 a1) := by
 intro a0 a1 k
 obtain ⟨ih0, ih1⟩ := tattingref7_Split.mono_l k
 unfold tattingref7_Split.f
 repeat' first
   | (with_reducible exact ih0 _ _ _)
   | (with_reducible exact ih1 _ _ _ _)
   | (with_reducible exact LeO.refl _)
   | (with_reducible exact LeO.none _)
   | (with_reducible refine LeO.ite ?_ ?_)
   | (with_reducible refine LeO.bind ?_ (fun _ => ?_))
   | exact ih0 _ _ _
   | exact ih1 _ _ _ _
   | exact LeO.none _
   | refine LeO.ite ?_ ?_
   | refine LeO.bind ?_ (fun _ => ?_)
set_option maxHeartbeats 8000000 in
set_option maxRecDepth 100000 in
theorem tattingref7_Split.calls (k : Nat) (A0 : Option Addr) (c0 : Nat) (l0 : List Int) (A1 : Option Addr) (c1 : Nat) (l1 : List Int) (r1 : Int) (r2 : Int) (w : World) (hr0 : Kd.C (Kd.int .i64) w A0 l0.length l0) (hc0 : l0.length ≤ c0) (hr1 : Kd.C (Kd.int .i64) w A1 l1.length l1) (hc1 : l1.length ≤ c1) (h : tattingref7_Split.f k l0 l1 = some (r1, r2)) :
  Calls Try.prog 31 #[.slice A0 l0.length c0, .slice A1 l1.length c1] w fun e w' => e = .returned (.tuple #[.int .i64 r1, .int .i64 r2]) ∧ Drawn0 w w' := by
 have HR0 := Aside0.mk hr0
 have HC0 := Aside0.mk hc0
 clear hr0 hc0
 have HR1 := Aside0.mk hr1
 have HC1 := Aside0.mk hc1
 clear hr1 hc1
 have H : (if (l0.length : Int) = (l1.length : Int) then (tattingref7_Split.j0 k l0 l1 ((l0.length : Int) == 0)) else (tattingref7_Split.j0 k l0 l1 true)) = some (r1, r2) := h
 clear h
 have HC3 := Aside0.mk H
 clear H
 go_enter Try.func31, Try.ntmps31
 go_upto_region 1 with (fail)
 repeat (go_quiet (fail); go_upto_region 1 with (fail))
 go_cut [17] (fun v17 wc => ∃ (kq : Nat) (x17_2 : Bool), v17 = .bool x17_2 ∧ Aside0 (tattingref7_Split.j0 kq l0 l1 x17_2 = some (r1, r2)) ∧ Aside0 (kq ≤ k) ∧ Drawn0 w wc)
 case first =>
  have H := HC3.out
  clear HC3
  by_cases c4 : (l0.length : Int) = (l1.length : Int)
  ·rw [if_pos c4] at H
   have c4b0 : ((l0.length : Int) == (l1.length : Int)) = true := beq_iff_eq.mpr c4
   have c4b1 : ((l0.length : Int) != (l1.length : Int)) = false := bne_eq_false_iff_eq.mpr c4
   have c4b2 : (l0.length == l1.length) = true := by first | simpa using c4 | (simp at c4 ⊢; omega)
   clear c4
   (first | rw [c4b0] | (simp only [i64_w, i32_w]; rw [c4b0]) | skip)
   have H' := Aside0.mk H
   clear H
   go_wp2
   repeat (go_quiet (fail); try go_wp2)
   go_meet
   case rel => exact ⟨_, (((l0.length : Int) == 0)), (by first | rfl | (simp; done) | (simp [*]; done)), H', ⟨by first | omega | exact Nat.le_refl _⟩, by repeat (first | exact Drawn0.refl _ | apply Drawn0.step)⟩
  ·rw [if_neg c4] at H
   have c4b0 : ((l0.length : Int) == (l1.length : Int)) = false := beq_eq_false_iff_ne.mpr c4
   have c4b1 : ((l0.length : Int) != (l1.length : Int)) = true := bne_iff_ne.mpr c4
   have c4b2 : (l0.length == l1.length) = false := by first | simpa using c4 | (simp at c4 ⊢; omega)
   (first | rw [c4b0] | (simp only [i64_w, i32_w]; rw [c4b0]) | skip)
   have H' := Aside0.mk H
   clear H
   go_wp2
   repeat (go_quiet (fail); try go_wp2)
   go_meet
   case rel => exact ⟨_, (true), (by first | rfl | (simp; done) | (simp [*]; done)), H', ⟨by first | omega | exact Nat.le_refl _⟩, by repeat (first | exact Drawn0.refl _ | apply Drawn0.step)⟩
 case rest =>
  clear HC3
  try clear c1
  try clear p2
  try clear c3
  try clear c4
  try clear c4b0
  try clear c4b1
  try clear c4b2
  obtain ⟨kq, x17_2, rfl, HA, HJ2, ⟨mc2, rfl⟩⟩ := hcut
  cases kq with
  | zero => exact absurd HA.out (by simp [tattingref7_Split.j0])
  | succ kj2 =>
   have H := HA.out
   clear HA
   simp only [tattingref7_Split.j0] at H
   by_cases c5 : x17_2 = true
   ·subst c5
    have H1 : (some (0, 0)) = some (r1, r2) := by rw [if_pos rfl] at H; exact H
    clear H
    have H := H1
    clear H1
    simp only [Option.some.injEq, Prod.mk.injEq] at H
    obtain ⟨rfl, rfl⟩ := H
    go_wp2
    repeat (go_quiet (fail); try go_wp2)
    go_ret2
    exact ⟨by first | rfl | (simp; done) | (simp [*]; done), by repeat (first | exact Drawn0.refl _ | apply Drawn0.step)⟩
   ·replace c5 := Bool.eq_false_iff.mpr c5
    subst c5
    have H1 : (tattingref7_Split.l0 kj2 l0 l1 0 1) = some (r1, r2) := by rw [if_neg (show ¬ (false = true) by decide)] at H; exact H
    clear H
    have H := H1
    clear H1
    have H' := Aside0.mk H
    clear H
    go_wp2
    repeat (go_quiet (fail); try go_wp2)
    go_loopg [6, 7] kj2 (fun kq v6 v7 w' => ∃ (x6_2 : Int) (x7_2 : Int), v6 = .int .i64 x6_2 ∧ v7 = .int .i64 x7_2 ∧ Aside0 (tattingref7_Split.l0 kq l0 l1 x6_2 x7_2 = some (r1, r2)) ∧ Aside0 (kq ≤ kj2) ∧ Drawn0 w w')
    case atStart => exact ⟨(0), (1), (by first | rfl | (simp; done) | (simp [*]; done)), (by first | rfl | (simp; done) | (simp [*]; done)), H', ⟨Nat.le_refl _⟩, by repeat (first | exact Drawn0.refl _ | apply Drawn0.step)⟩
    case round =>
     clear H'
     try clear c1
     try clear c2
     try clear p2
     try clear c3
     try clear c4
     try clear c4b0
     try clear c4b1
     try clear c4b2
     try clear c5
     try clear p2
     obtain ⟨x6_2, x7_2, rfl, rfl, HA, HK2, ⟨m2, rfl⟩⟩ := hrel
     cases gk with
     | zero => exact absurd HA.out (by simp [tattingref7_Split.l0])
     | succ k2 =>
      have H := HA.out
      clear HA
      simp only [tattingref7_Split.l0] at H
      by_cases c6 : x7_2 < (l0.length : Int)
      ·rw [if_pos c6] at H
       have c6b0 : decide (x7_2 < (l0.length : Int)) = true := decide_eq_true c6
       clear c6
       by_cases c7 : 0 ≤ x7_2
       ·rw [if_pos c7] at H
        have c7b0 : decide (0 ≤ x7_2) = true := decide_eq_true c7
        clear c7
        by_cases c8 : x7_2 < (l1.length : Int)
        ·rw [if_pos c8] at H
         have c8b0 : decide (x7_2 < (l1.length : Int)) = true := decide_eq_true c8
         clear c8
         by_cases c9 : 0 ≤ x6_2
         ·rw [if_pos c9] at H
          have c9b0 : decide (0 ≤ x6_2) = true := decide_eq_true c9
          clear c9
          by_cases c10 : x6_2 < (l0.length : Int)
          ·rw [if_pos c10] at H
           have c10b0 : decide (x6_2 < (l0.length : Int)) = true := decide_eq_true c10
           clear c10
           by_cases c11 : x6_2 < (l1.length : Int)
           ·rw [if_pos c11] at H
            have c11b0 : decide (x6_2 < (l1.length : Int)) = true := decide_eq_true c11
            clear c11
            by_cases c12 : (wrap64 ((rd l0 x7_2) + (rd l1 x7_2))) > (wrap64 ((rd l0 x6_2) + (rd l1 x6_2)))
            ·rw [if_pos c12] at H
             have c12b0 : decide ((wrap64 ((rd l0 x6_2) + (rd l1 x6_2))) < (wrap64 ((rd l0 x7_2) + (rd l1 x7_2)))) = true := decide_eq_true c12
             clear c12
             have H' := Aside0.mk H
             clear H
             have p282 : 0 ≤ (x7_2 : Int) := of_decide_eq_true (by first | (with_reducible assumption) | assumption)
             have q282 : x7_2 < (l0.length : Int) := of_decide_eq_true (by first | (with_reducible assumption) | assumption)
             obtain ⟨ad282, e282, hx282_0⟩ := Kd.at_int HR0.out x7_2 p282 q282
             cases e282
             replace p282 := eq_true p282
             replace q282 := eq_true q282
             have p283 : 0 ≤ (x7_2 : Int) := of_decide_eq_true (by first | (with_reducible assumption) | assumption)
             have q283 : x7_2 < (l1.length : Int) := of_decide_eq_true (by first | (with_reducible assumption) | assumption)
             obtain ⟨ad283, e283, hx283_0⟩ := Kd.at_int HR1.out x7_2 p283 q283
             cases e283
             replace p283 := eq_true p283
             replace q283 := eq_true q283
             have p284 : 0 ≤ (x6_2 : Int) := of_decide_eq_true (by first | (with_reducible assumption) | assumption)
             have q284 : x6_2 < (l0.length : Int) := of_decide_eq_true (by first | (with_reducible assumption) | assumption)
             obtain ⟨ad284, e284, hx284_0⟩ := Kd.at_int HR0.out x6_2 p284 q284
             obtain rfl : ad282 = ad284 := (by injection e284)
             replace p284 := eq_true p284
             replace q284 := eq_true q284
             have p285 : 0 ≤ (x6_2 : Int) := of_decide_eq_true (by first | (with_reducible assumption) | assumption)
             have q285 : x6_2 < (l1.length : Int) := of_decide_eq_true (by first | (with_reducible assumption) | assumption)
             obtain ⟨ad285, e285, hx285_0⟩ := Kd.at_int HR1.out x6_2 p285 q285
             obtain rfl : ad283 = ad285 := (by injection e285)
             replace p285 := eq_true p285
             replace q285 := eq_true q285
             go_wp2
             repeat (go_quiet (fail); try go_wp2)
             go_roundg k2
             case measure => have := HJ2.out; have := HK2.out; omega
             case rel => exact ⟨(x7_2), (wrap64 (x7_2 + 1)), (by first | rfl | (simp; done) | (simp [*]; done)), (by first | rfl | (simp; done) | (simp [*]; done)), H', ⟨by have := HJ2.out; have := HK2.out; omega⟩, by repeat (first | exact Drawn0.refl _ | apply Drawn0.step)⟩
            ·rw [if_neg c12] at H
             have c12b0 : decide ((wrap64 ((rd l0 x6_2) + (rd l1 x6_2))) < (wrap64 ((rd l0 x7_2) + (rd l1 x7_2)))) = false := decide_eq_false c12
             clear c12
             have H' := Aside0.mk H
             clear H
             have p282 : 0 ≤ (x7_2 : Int) := of_decide_eq_true (by first | (with_reducible assumption) | assumption)
             have q282 : x7_2 < (l0.length : Int) := of_decide_eq_true (by first | (with_reducible assumption) | assumption)
             obtain ⟨ad282, e282, hx282_0⟩ := Kd.at_int HR0.out x7_2 p282 q282
             cases e282
             replace p282 := eq_true p282
             replace q282 := eq_true q282
             have p283 : 0 ≤ (x7_2 : Int) := of_decide_eq_true (by first | (with_reducible assumption) | assumption)
             have q283 : x7_2 < (l1.length : Int) := of_decide_eq_true (by first | (with_reducible assumption) | assumption)
             obtain ⟨ad283, e283, hx283_0⟩ := Kd.at_int HR1.out x7_2 p283 q283
             cases e283
             replace p283 := eq_true p283
             replace q283 := eq_true q283
             have p284 : 0 ≤ (x6_2 : Int) := of_decide_eq_true (by first | (with_reducible assumption) | assumption)
             have q284 : x6_2 < (l0.length : Int) := of_decide_eq_true (by first | (with_reducible assumption) | assumption)
             obtain ⟨ad284, e284, hx284_0⟩ := Kd.at_int HR0.out x6_2 p284 q284
             obtain rfl : ad282 = ad284 := (by injection e284)
             replace p284 := eq_true p284
             replace q284 := eq_true q284
             have p285 : 0 ≤ (x6_2 : Int) := of_decide_eq_true (by first | (with_reducible assumption) | assumption)
             have q285 : x6_2 < (l1.length : Int) := of_decide_eq_true (by first | (with_reducible assumption) | assumption)
             obtain ⟨ad285, e285, hx285_0⟩ := Kd.at_int HR1.out x6_2 p285 q285
             obtain rfl : ad283 = ad285 := (by injection e285)
             replace p285 := eq_true p285
             replace q285 := eq_true q285
             go_wp2
             repeat (go_quiet (fail); try go_wp2)
             go_roundg k2
             case measure => have := HJ2.out; have := HK2.out; omega
             case rel => exact ⟨(x6_2), (wrap64 (x7_2 + 1)), (by first | rfl | (simp; done) | (simp [*]; done)), (by first | rfl | (simp; done) | (simp [*]; done)), H', ⟨by have := HJ2.out; have := HK2.out; omega⟩, by repeat (first | exact Drawn0.refl _ | apply Drawn0.step)⟩
           ·rw [if_neg c11] at H
            exact absurd H (by simp)
          ·rw [if_neg c10] at H
           exact absurd H (by simp)
         ·rw [if_neg c9] at H
          exact absurd H (by simp)
        ·rw [if_neg c8] at H
         exact absurd H (by simp)
       ·rw [if_neg c7] at H
        exact absurd H (by simp)
      ·rw [if_neg c6] at H
       have c6b0 : decide (x7_2 < (l0.length : Int)) = false := decide_eq_false c6
       clear c6
       by_cases c13 : 0 ≤ x6_2
       ·rw [if_pos c13] at H
        have c13b0 : decide (0 ≤ x6_2) = true := decide_eq_true c13
        clear c13
        by_cases c14 : x6_2 < (l0.length : Int)
        ·rw [if_pos c14] at H
         have c14b0 : decide (x6_2 < (l0.length : Int)) = true := decide_eq_true c14
         clear c14
         by_cases c15 : x6_2 < (l1.length : Int)
         ·rw [if_pos c15] at H
          have c15b0 : decide (x6_2 < (l1.length : Int)) = true := decide_eq_true c15
          clear c15
          simp only [Option.some.injEq, Prod.mk.injEq] at H
          obtain ⟨rfl, rfl⟩ := H
          have p286 : 0 ≤ (x6_2 : Int) := of_decide_eq_true (by first | (with_reducible assumption) | assumption)
          have q286 : x6_2 < (l0.length : Int) := of_decide_eq_true (by first | (with_reducible assumption) | assumption)
          obtain ⟨ad286, e286, hx286_0⟩ := Kd.at_int HR0.out x6_2 p286 q286
          cases e286
          replace p286 := eq_true p286
          replace q286 := eq_true q286
          have p287 : 0 ≤ (x6_2 : Int) := of_decide_eq_true (by first | (with_reducible assumption) | assumption)
          have q287 : x6_2 < (l1.length : Int) := of_decide_eq_true (by first | (with_reducible assumption) | assumption)
          obtain ⟨ad287, e287, hx287_0⟩ := Kd.at_int HR1.out x6_2 p287 q287
          cases e287
          replace p287 := eq_true p287
          replace q287 := eq_true q287
          go_wp2
          repeat (go_quiet (fail); try go_wp2)
          go_ret2
          exact ⟨by first | rfl | (simp; done) | (simp [*]; done), by repeat (first | exact Drawn0.refl _ | apply Drawn0.step)⟩
         ·rw [if_neg c15] at H
          exact absurd H (by simp)
        ·rw [if_neg c14] at H
         exact absurd H (by simp)
       ·rw [if_neg c13] at H
        exact absurd H (by simp)

/-! ### tattingref7_Turned: function 19 -/
def tattingref7_Turned.l0 : Nat → List Int → List Int → Int → Option (List Int)
 | 0, _, _, _ => none
 | k + 1, x0, x3, x4 => if x4 ≥ 0 then (if 0 ≤ x4 then (if x4 < (x0.length : Int) then (if x3.length < 17592186044416 then (tattingref7_Turned.l0 k x0 (x3 ++ [rd x0 x4]) (wrap64 (x4 - 1))) else (none)) else (none)) else (none)) else (some x3)
def tattingref7_Turned.f (k : Nat) (l0 : List Int) : Option (List Int) := tattingref7_Turned.l0 k l0 ([] : List Int) (wrap64 ((l0.length : Int) - 1))
theorem tattingref7_Turned.mono_l : ∀ k, (∀ y0 y1 y2, LeO (tattingref7_Turned.l0 k y0 y1 y2) (tattingref7_Turned.l0 (k + 1) y0 y1 y2))
 | 0 => fun _ _ _ r h => by simp [tattingref7_Turned.l0] at h
 | k + 1 => by
  have ih0 := tattingref7_Turned.mono_l k
  ·intro y0 y1 y2
   unfold tattingref7_Turned.l0
   repeat' first
   | (with_reducible exact ih0 _ _ _)
   | (with_reducible exact LeO.refl _)
   | (with_reducible exact LeO.none _)
   | (with_reducible refine LeO.ite ?_ ?_)
   | (with_reducible refine LeO.bind ?_ (fun _ => ?_))
   | exact ih0 _ _ _
   | exact LeO.none _
   | refine LeO.ite ?_ ?_
   | refine LeO.bind ?_ (fun _ => ?_)
theorem tattingref7_Turned.mono : ∀ a0 k, LeO (tattingref7_Turned.f k a0) (tattingref7_Turned.f (k + 1) a0) := by
 intro a0 k
 have ih0 := tattingref7_Turned.mono_l k
 unfold tattingref7_Turned.f
 repeat' first
   | (with_reducible exact ih0 _ _ _)
   | (with_reducible exact LeO.refl _)
   | (with_reducible exact LeO.none _)
   | (with_reducible refine LeO.ite ?_ ?_)
   | (with_reducible refine LeO.bind ?_ (fun _ => ?_))
   | exact ih0 _ _ _
   | exact LeO.none _
   | refine LeO.ite ?_ ?_
   | refine LeO.bind ?_ (fun _ => ?_)
set_option maxHeartbeats 8000000 in
set_option maxRecDepth 100000 in
theorem tattingref7_Turned.calls (k : Nat) (A0 : Option Addr) (c0 : Nat) (l0 : List Int) (r : List Int) (w : World) (hr0 : Kd.C (Kd.int .i64) w A0 l0.length l0) (hc0 : l0.length ≤ c0) (h : tattingref7_Turned.f k l0 = some r) :
  Calls Try.prog 19 #[.slice A0 l0.length c0] w fun e w' => ∃ v0_ : Value, e = .returned (v0_) ∧ Kd.R (Kd.int .i64) 3 w' w.heap.size (fun _ => True) v0_ r ∧ Below w.heap.size w w' := by
 have HR0 := Aside0.mk hr0
 have HC0 := Aside0.mk hc0
 clear hr0 hc0
 have HB := Aside0.mk (Below.refl w.heap.size w)
 have H : (tattingref7_Turned.l0 k l0 ([] : List Int) (wrap64 ((l0.length : Int) - 1))) = some r := h
 clear h
 have H' := Aside0.mk H
 clear H
 go_enter Try.func19, Try.ntmps19
 go_wp2
 go_loopg [3, 4] k (fun kq v3 v4 w' => ∃ (x3_1 : List Int) (x4_1 : Int), v4 = .int .i64 x4_1 ∧ Aside0 (tattingref7_Turned.l0 kq l0 x3_1 x4_1 = some r) ∧ Aside0 (kq ≤ k) ∧ Aside0 (Kd.R (Kd.int .i64) 3 w' w.heap.size (fun _ => True) v3 x3_1) ∧ Aside0 (Below w.heap.size w w'))
 case atStart => exact ⟨(([] : List Int)), (wrap64 ((l0.length : Int) - 1)), (by first | rfl | (simp; done) | (simp [*]; done)), H', ⟨Nat.le_refl _⟩, ⟨by first | exact Kd.R_nil _ _ _ _ _ | exact Kd.N_nil _ _ _ _ _ | exact Kd.V_nil _ _ _ _ _ | exact Kd.Q_nil _ _ _ _ _ | exact Kd.S_nil _ _ _ _ _⟩, ⟨by repeat (first | (with_reducible first | exact HB.out | apply below_alloc | apply pw_below_drewN | apply below_drew1) | exact HB.out)⟩⟩
 case round =>
  clear H'
  try clear c1
  obtain ⟨x3_1, x4_1, rfl, HA, HK1, HO_3, HB⟩ := hrel
  cases gk with
  | zero => exact absurd HA.out (by simp [tattingref7_Turned.l0])
  | succ k1 =>
   have H := HA.out
   clear HA
   simp only [tattingref7_Turned.l0] at H
   by_cases c2 : x4_1 ≥ 0
   ·rw [if_pos c2] at H
    have c2b0 : decide (0 ≤ x4_1) = true := decide_eq_true c2
    clear c2
    by_cases c3 : 0 ≤ x4_1
    ·rw [if_pos c3] at H
     have c3b0 : decide (0 ≤ x4_1) = true := decide_eq_true c3
     clear c3
     by_cases c4 : x4_1 < (l0.length : Int)
     ·rw [if_pos c4] at H
      have c4b0 : decide (x4_1 < (l0.length : Int)) = true := decide_eq_true c4
      clear c4
      by_cases c5 : x3_1.length < 17592186044416
      ·rw [if_pos c5] at H
       have LMc5 := Aside0.mk c5
       clear c5
       obtain ⟨y289, hy289⟩ : ∃ y_ : List Int, y_ = (x3_1 ++ [rd l0 x4_1]) := ⟨_, rfl⟩
       replace H : (tattingref7_Turned.l0 k1 l0 y289 (wrap64 (x4_1 - 1))) = some r := by first | (rw [hy289]; with_reducible exact H) | (have H2_ := (Option.bind_some _ _).symm.trans H; rw [hy289]; with_reducible exact H2_) | (have H2_ := (Option.bind_some _ _).symm.trans H; with_reducible exact H2_) | with_reducible exact H | (rw [hy289]; exact H) | exact H
       have Ny289 := Aside0.mk hy289
       clear hy289
       have H' := Aside0.mk H
       clear H
       have p288 : 0 ≤ (x4_1 : Int) := of_decide_eq_true (by first | (with_reducible assumption) | assumption)
       have q288 : x4_1 < (l0.length : Int) := of_decide_eq_true (by first | (with_reducible assumption) | assumption)
       obtain ⟨ad288, e288, hx288_0⟩ := Kd.at_int HR0.out x4_1 p288 q288
       cases e288
       replace hx288_0 := (HB.out.cell (World.block_lt_of_cell? w _ hx288_0)).trans hx288_0
       replace p288 := eq_true p288
       replace q288 := eq_true q288
       go_wp2_with (first | ((with_reducible refine gate_builtin (b := .append) (xs := #[.tmp 12, .tmp 17]) rfl ?_); at_builtin; refine Kd.R_append (Kd.int .i64) (w0 := w) w.heap.size rfl (.tmp 12) (.tmp 17) 26 3 (.int .i64 0) 8 rfl Try.underlying26 info3 rfl (by decide) (by omega) u3 x3_1 (rd l0 x4_1) [.int .i64 (rd l0 x4_1)] (fun _ => True) (fun _ => False) rfl rfl ?aP (fun _ hk => hk.elim) ?aF ?aO ?aB ?aS ?aL ?_; (case aP => exact rfl); (case aB => exact (by repeat (first | (with_reducible first | exact HB.out | apply below_alloc | apply pw_below_drewN | apply below_drew1) | exact HB.out))); (case aF => exact (fun _ _ => trivial)); (case aO => exact (by (with_reducible repeat (first | apply Kd.R_alloc | apply Kd.R_drewN | apply Kd.R_drew)); exact HO_3.out)); (case aS => exact (below_size (by repeat (first | (with_reducible first | exact HB.out | apply below_alloc | apply pw_below_drewN | apply below_drew1) | exact HB.out)))); (case aL => have := LMc5.out; omega); intro v290 w6 ho hb hg hat; rw [← Ny289.out] at ho; have n0_ := Aside0.mk (hb); have n1_ := Aside0.mk (ho); clear HB; clear HO_3; have HB := n0_; have HO291 := n1_; clear n0_ n1_; (try clear ho); (try clear hb); (try clear hg); (try clear hat)))
       go_roundg k1
       case measure => have := HK1.out; omega
       case rel => exact ⟨(y289), (wrap64 (x4_1 - 1)), (by first | rfl | (simp; done) | (simp [*]; done)), H', ⟨by have := HK1.out; omega⟩, ⟨by (with_reducible repeat (first | apply Kd.R_alloc | apply Kd.R_drewN | apply Kd.R_drew)); exact HO291.out⟩, ⟨by repeat (first | (with_reducible first | exact HB.out | apply below_alloc | apply pw_below_drewN | apply below_drew1) | exact HB.out)⟩⟩
      ·rw [if_neg c5] at H
       exact absurd H (by simp)
     ·rw [if_neg c4] at H
      exact absurd H (by simp)
    ·rw [if_neg c3] at H
     exact absurd H (by simp)
   ·rw [if_neg c2] at H
    have c2b0 : decide (0 ≤ x4_1) = false := decide_eq_false c2
    clear c2
    obtain rfl := Option.some.inj H
    go_wp2
    go_ret
    exact ⟨_, by first | rfl | (simp [errW_none, errW_some] <;> rfl) | (simp [*, errW_none, errW_some] <;> rfl), by (with_reducible repeat (first | apply Kd.R_alloc | apply Kd.R_drewN | apply Kd.R_drew)); exact HO_3.out, by repeat (first | (with_reducible first | exact HB.out | apply below_alloc | apply pw_below_drewN | apply below_drew1) | exact HB.out)⟩

/-! ### tattingref7_AheadA: a part of function 38 -/
def tattingref7_AheadA.f (k : Nat) (l0 : List Int) (l1 : List Int) : Option ((List (List Int))) := (tattingref7_Turned.f k l0).bind fun t292 => ((tattingref7_Turned.f k l1).bind fun t295 => ((tattingref7_Behind.f k t292 t295).bind fun t298 => (some t298)))
theorem tattingref7_AheadA.mono : ∀ a0 a1 k, LeO (tattingref7_AheadA.f k a0 a1) (tattingref7_AheadA.f (k + 1) a0 a1) := by
 intro a0 a1 k
 unfold tattingref7_AheadA.f
 repeat' first
   | (with_reducible exact tattingref7_Behind.mono _ _ _)
   | (with_reducible exact tattingref7_Turned.mono _ _)
   | (with_reducible exact LeO.refl _)
   | (with_reducible exact LeO.none _)
   | (with_reducible refine LeO.ite ?_ ?_)
   | (with_reducible refine LeO.bind ?_ (fun _ => ?_))
   | exact tattingref7_Behind.mono _ _ _
   | exact tattingref7_Turned.mono _ _
   | exact LeO.none _
   | refine LeO.ite ?_ ?_
   | refine LeO.bind ?_ (fun _ => ?_)

end Go.Proofs.Ytdegajidkboknaa.PCanonAny
