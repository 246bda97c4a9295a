/- What the given program's functions come to, each a Lean function and the walk that shows it: no condition beside those that each theorem names. -/
import Derived.Test.YtdegajidkboknaaPCanonStaysx0
import Derived.Test.YtdegajidkboknaaPCanonStaysx6
import Derived.Test.YtdegajidkboknaaPCanonStaysx7
import Derived.Test.YtdegajidkboknaaPCanonStaysx9
namespace Go.Proofs.Ytdegajidkboknaa.PCanonStays
open Go.RowKit Go.Proofs.YtdegajidkboknaaW.PrintWords Go.Proofs.YtdegajidkboknaaW.PrintLast Go.Proofs.YtdegajidkboknaaW.PrintMore
attribute [local go_sem] max2_int min2_int max_two min_two max_three min_three max_four min_four   -- for this text's walks alone
set_option linter.unusedVariables false
set_option linter.unusedSimpArgs false

/-! ### tattingref7_Less: function 22 -/
mutual
def tattingref7_Less.l0 : Nat → List (S28) → List (S28) → Int → Option (Bool)
 | 0, _, _, _ => none
 | k + 1, x0, x1, x5 => if x5 < (x0.length : Int) then (tattingref7_Less.j1 k x0 x1 x5 (decide (x5 < (x1.length : Int)))) else (tattingref7_Less.j1 k x0 x1 x5 false)
def tattingref7_Less.j1 : Nat → List (S28) → List (S28) → Int → Bool → Option (Bool)
 | 0, _, _, _, _ => none
 | k + 1, x0, x1, x5, x15 => if x15 = true then (if 0 ≤ x5 then (if x5 < (x0.length : Int) then (if x5 < (x1.length : Int) then (if ((rd_T28 x0 x5).f0) = ((rd_T28 x1 x5).f0) then (if ((rd_T28 x0 x5).f1) = ((rd_T28 x1 x5).f1) then (tattingref7_Less.l0 k x0 x1 (wrap64 (x5 + 1))) else (some (decide (((rd_T28 x0 x5).f1) < ((rd_T28 x1 x5).f1))))) else (some (decide (((rd_T28 x0 x5).f0) < ((rd_T28 x1 x5).f0))))) else (none)) else (none)) else (none)) else (some (decide ((x0.length : Int) < (x1.length : Int))))
end
def tattingref7_Less.f (k : Nat) (l0 : List (S28)) (l1 : List (S28)) : Option (Bool) := tattingref7_Less.l0 k l0 l1 0
theorem tattingref7_Less.mono_l : ∀ k, (∀ y0 y1 y2, LeO (tattingref7_Less.l0 k y0 y1 y2) (tattingref7_Less.l0 (k + 1) y0 y1 y2)) ∧ (∀ y0 y1 y2 y3, LeO (tattingref7_Less.j1 k y0 y1 y2 y3) (tattingref7_Less.j1 (k + 1) y0 y1 y2 y3))
 | 0 => ⟨fun _ _ _ r h => by simp [tattingref7_Less.l0] at h, fun _ _ _ _ r h => by simp [tattingref7_Less.j1] at h⟩
 | k + 1 => by
  obtain ⟨ih0, ih1⟩ := tattingref7_Less.mono_l k
  refine ⟨?_, ?_⟩
  ·intro y0 y1 y2
   unfold tattingref7_Less.l0
   repeat' first
   | (with_reducible exact ih0 _ _ _)
   | (with_reducible exact ih1 _ _ _ _)
   | (with_reducible exact LeO.refl _)
   | (with_reducible exact LeO.none _)
   | (with_reducible refine LeO.ite ?_ ?_)
   | (with_reducible refine LeO.bind ?_ (fun _ => ?_))
   | exact ih0 _ _ _
   | exact ih1 _ _ _ _
   | exact LeO.none _
   | refine LeO.ite ?_ ?_
   | refine LeO.bind ?_ (fun _ => ?_)
  ·intro y0 y1 y2 y3
   unfold tattingref7_Less.j1
   repeat' first
   | (with_reducible exact ih0 _ _ _)
   | (with_reducible exact ih1 _ _ _ _)
   | (with_reducible exact LeO.refl _)
   | (with_reducible exact LeO.none _)
   | (with_reducible refine LeO.ite ?_ ?_)
   | (with_reducible refine LeO.bind ?_ (fun _ => ?_))
   | exact ih0 _ _ _
   | exact ih1 _ _ _ _
   | exact LeO.none _
   | refine LeO.ite ?_ ?_
   | refine LeO.bind ?_ (fun _ => ?_)
theorem tattingref7_Less.mono : ∀ a0 a1 k, LeO (tattingref7_Less.f k a0 a1) (tattingref7_Less.f (k + 1) a0 a1) := by
 intro a0 a1 k
 obtain ⟨ih0, ih1⟩ := tattingref7_Less.mono_l k
 unfold tattingref7_Less.f
 repeat' first
   | (with_reducible exact ih0 _ _ _)
   | (with_reducible exact ih1 _ _ _ _)
   | (with_reducible exact LeO.refl _)
   | (with_reducible exact LeO.none _)
   | (with_reducible refine LeO.ite ?_ ?_)
   | (with_reducible refine LeO.bind ?_ (fun _ => ?_))
   | exact ih0 _ _ _
   | exact ih1 _ _ _ _
   | exact LeO.none _
   | refine LeO.ite ?_ ?_
   | refine LeO.bind ?_ (fun _ => ?_)
set_option maxHeartbeats 8000000 in
set_option maxRecDepth 100000 in
theorem tattingref7_Less.calls (k : Nat) (A0 : Option Addr) (c0 : Nat) (l0 : List (S28)) (A1 : Option Addr) (c1 : Nat) (l1 : List (S28)) (r : Bool) (w : World) (hr0 : Kd.C k28 w A0 l0.length l0) (hc0 : l0.length ≤ c0) (hr1 : Kd.C k28 w A1 l1.length l1) (hc1 : l1.length ≤ c1) (h : tattingref7_Less.f k l0 l1 = some r) :
  Calls Try.prog 22 #[.slice A0 l0.length c0, .slice A1 l1.length c1] w fun e w' => e = .returned (.bool r) ∧ Drawn0 w w' := by
 have HR0 := Aside0.mk hr0
 have HC0 := Aside0.mk hc0
 clear hr0 hc0
 have HR1 := Aside0.mk hr1
 have HC1 := Aside0.mk hc1
 clear hr1 hc1
 have H : (tattingref7_Less.l0 k l0 l1 0) = some r := h
 clear h
 have H' := Aside0.mk H
 clear H
 go_enter Try.func22, Try.ntmps22
 go_wp2
 repeat (go_quiet (fail); try go_wp2)
 go_loopg [5] k (fun kq v5 w' => ∃ (x5_1 : Int), v5 = .int .i64 x5_1 ∧ Aside0 (tattingref7_Less.l0 kq l0 l1 x5_1 = some r) ∧ Aside0 (kq ≤ k) ∧ Drawn0 w w')
 case atStart => exact ⟨(0), (by first | rfl | (simp; done) | (simp [*]; done)), H', ⟨Nat.le_refl _⟩, by repeat (first | exact Drawn0.refl _ | apply Drawn0.step)⟩
 case round =>
  clear H'
  try clear c1
  try clear c2
  try clear p2
  obtain ⟨x5_1, rfl, HA, HK1, ⟨m1, rfl⟩⟩ := hrel
  cases gk with
  | zero => exact absurd HA.out (by simp [tattingref7_Less.l0])
  | succ k1 =>
   have H := HA.out
   clear HA
   simp only [tattingref7_Less.l0] at H
   have HC3 := Aside0.mk H
   clear H
   go_upto_region 2 with (fail)
   repeat (go_quiet (fail); go_upto_region 2 with (fail))
   go_cut [15] (fun v15 wc => ∃ (kq : Nat) (x15_2 : Bool), v15 = .bool x15_2 ∧ Aside0 (tattingref7_Less.j1 kq l0 l1 x5_1 x15_2 = some r) ∧ Aside0 (kq ≤ k1) ∧ Drawn0 w wc)
   case first =>
    have H := HC3.out
    clear HC3
    by_cases c4 : x5_1 < (l0.length : Int)
    ·rw [if_pos c4] at H
     have c4b0 : decide (x5_1 < (l0.length : Int)) = true := decide_eq_true c4
     clear c4
     (first | rw [c4b0] | (simp only [i64_w, i32_w]; rw [c4b0]) | skip)
     have H' := Aside0.mk H
     clear H
     go_wp2
     repeat (go_quiet (fail); try go_wp2)
     go_meet
     case rel => exact ⟨_, (decide (x5_1 < (l1.length : Int))), (by first | rfl | (simp; done) | (simp [*]; done)), H', ⟨by have := HK1.out; first | omega | exact Nat.le_refl _⟩, by repeat (first | exact Drawn0.refl _ | apply Drawn0.step)⟩
    ·rw [if_neg c4] at H
     have c4b0 : decide (x5_1 < (l0.length : Int)) = false := decide_eq_false c4
     clear c4
     (first | rw [c4b0] | (simp only [i64_w, i32_w]; rw [c4b0]) | skip)
     have H' := Aside0.mk H
     clear H
     go_wp2
     repeat (go_quiet (fail); try go_wp2)
     go_meet
     case rel => exact ⟨_, (false), (by first | rfl | (simp; done) | (simp [*]; done)), H', ⟨by have := HK1.out; first | omega | exact Nat.le_refl _⟩, by repeat (first | exact Drawn0.refl _ | apply Drawn0.step)⟩
   case rest =>
    clear HC3
    try clear c1
    try clear c2
    try clear p2
    try clear c4
    try clear c4b0
    try clear p2
    obtain ⟨kq, x15_2, rfl, HA, HJ2, ⟨mc2, rfl⟩⟩ := hcut
    cases kq with
    | zero => exact absurd HA.out (by simp [tattingref7_Less.j1])
    | succ kj2 =>
     have H := HA.out
     clear HA
     simp only [tattingref7_Less.j1] at H
     by_cases c5 : x15_2 = true
     ·subst c5
      have H1 : (if 0 ≤ x5_1 then (if x5_1 < (l0.length : Int) then (if x5_1 < (l1.length : Int) then (if ((rd_T28 l0 x5_1).f0) = ((rd_T28 l1 x5_1).f0) then (if ((rd_T28 l0 x5_1).f1) = ((rd_T28 l1 x5_1).f1) then (tattingref7_Less.l0 kj2 l0 l1 (wrap64 (x5_1 + 1))) else (some (decide (((rd_T28 l0 x5_1).f1) < ((rd_T28 l1 x5_1).f1))))) else (some (decide (((rd_T28 l0 x5_1).f0) < ((rd_T28 l1 x5_1).f0))))) else (none)) else (none)) else (none)) = some r := by rw [if_pos rfl] at H; exact H
      clear H
      have H := H1
      clear H1
      by_cases c6 : 0 ≤ x5_1
      ·rw [if_pos c6] at H
       have c6b0 : decide (0 ≤ x5_1) = true := decide_eq_true c6
       clear c6
       by_cases c7 : x5_1 < (l0.length : Int)
       ·rw [if_pos c7] at H
        have c7b0 : decide (x5_1 < (l0.length : Int)) = true := decide_eq_true c7
        clear c7
        by_cases c8 : x5_1 < (l1.length : Int)
        ·rw [if_pos c8] at H
         have c8b0 : decide (x5_1 < (l1.length : Int)) = true := decide_eq_true c8
         clear c8
         by_cases c9 : ((rd_T28 l0 x5_1).f0) = ((rd_T28 l1 x5_1).f0)
         ·rw [if_pos c9] at H
          have c9b0 : (((rd_T28 l0 x5_1).f0) == ((rd_T28 l1 x5_1).f0)) = true := beq_iff_eq.mpr c9
          have c9b1 : (((rd_T28 l0 x5_1).f0) != ((rd_T28 l1 x5_1).f0)) = false := bne_eq_false_iff_eq.mpr c9
          clear c9
          by_cases c10 : ((rd_T28 l0 x5_1).f1) = ((rd_T28 l1 x5_1).f1)
          ·rw [if_pos c10] at H
           have c10b0 : (((rd_T28 l0 x5_1).f1) == ((rd_T28 l1 x5_1).f1)) = true := beq_iff_eq.mpr c10
           have c10b1 : (((rd_T28 l0 x5_1).f1) != ((rd_T28 l1 x5_1).f1)) = false := bne_eq_false_iff_eq.mpr c10
           clear c10
           have H' := Aside0.mk H
           clear H
           have p288 : 0 ≤ (x5_1 : Int) := of_decide_eq_true (by first | (with_reducible assumption) | assumption)
           have q288 : x5_1 < (l0.length : Int) := of_decide_eq_true (by first | (with_reducible assumption) | assumption)
           obtain ⟨ad288, e288, hx288_0, hx288_1⟩ := at_T28 HR0.out x5_1 p288 q288
           cases e288
           replace p288 := eq_true p288
           replace q288 := eq_true q288
           have p289 : 0 ≤ (x5_1 : Int) := of_decide_eq_true (by first | (with_reducible assumption) | assumption)
           have q289 : x5_1 < (l1.length : Int) := of_decide_eq_true (by first | (with_reducible assumption) | assumption)
           obtain ⟨ad289, e289, hx289_0, hx289_1⟩ := at_T28 HR1.out x5_1 p289 q289
           cases e289
           replace p289 := eq_true p289
           replace q289 := eq_true q289
           have p290 : 0 ≤ (x5_1 : Int) := of_decide_eq_true (by first | (with_reducible assumption) | assumption)
           have q290 : x5_1 < (l0.length : Int) := of_decide_eq_true (by first | (with_reducible assumption) | assumption)
           obtain ⟨ad290, e290, hx290_0, hx290_1⟩ := at_T28 HR0.out x5_1 p290 q290
           obtain rfl : ad288 = ad290 := (by injection e290)
           replace p290 := eq_true p290
           replace q290 := eq_true q290
           have p291 : 0 ≤ (x5_1 : Int) := of_decide_eq_true (by first | (with_reducible assumption) | assumption)
           have q291 : x5_1 < (l1.length : Int) := of_decide_eq_true (by first | (with_reducible assumption) | assumption)
           obtain ⟨ad291, e291, hx291_0, hx291_1⟩ := at_T28 HR1.out x5_1 p291 q291
           obtain rfl : ad289 = ad291 := (by injection e291)
           replace p291 := eq_true p291
           replace q291 := eq_true q291
           go_wp2
           repeat (go_quiet (fail); try go_wp2)
           go_roundg kj2
           case measure => have := HK1.out; have := HJ2.out; omega
           case rel => exact ⟨(wrap64 (x5_1 + 1)), (by first | rfl | (simp; done) | (simp [*]; done)), H', ⟨by have := HK1.out; have := HJ2.out; omega⟩, by repeat (first | exact Drawn0.refl _ | apply Drawn0.step)⟩
          ·rw [if_neg c10] at H
           have c10b0 : (((rd_T28 l0 x5_1).f1) == ((rd_T28 l1 x5_1).f1)) = false := beq_eq_false_iff_ne.mpr c10
           have c10b1 : (((rd_T28 l0 x5_1).f1) != ((rd_T28 l1 x5_1).f1)) = true := bne_iff_ne.mpr c10
           obtain rfl := Option.some.inj H
           have p288 : 0 ≤ (x5_1 : Int) := of_decide_eq_true (by first | (with_reducible assumption) | assumption)
           have q288 : x5_1 < (l0.length : Int) := of_decide_eq_true (by first | (with_reducible assumption) | assumption)
           obtain ⟨ad288, e288, hx288_0, hx288_1⟩ := at_T28 HR0.out x5_1 p288 q288
           cases e288
           replace p288 := eq_true p288
           replace q288 := eq_true q288
           have p289 : 0 ≤ (x5_1 : Int) := of_decide_eq_true (by first | (with_reducible assumption) | assumption)
           have q289 : x5_1 < (l1.length : Int) := of_decide_eq_true (by first | (with_reducible assumption) | assumption)
           obtain ⟨ad289, e289, hx289_0, hx289_1⟩ := at_T28 HR1.out x5_1 p289 q289
           cases e289
           replace p289 := eq_true p289
           replace q289 := eq_true q289
           have p290 : 0 ≤ (x5_1 : Int) := of_decide_eq_true (by first | (with_reducible assumption) | assumption)
           have q290 : x5_1 < (l0.length : Int) := of_decide_eq_true (by first | (with_reducible assumption) | assumption)
           obtain ⟨ad290, e290, hx290_0, hx290_1⟩ := at_T28 HR0.out x5_1 p290 q290
           obtain rfl : ad288 = ad290 := (by injection e290)
           replace p290 := eq_true p290
           replace q290 := eq_true q290
           have p291 : 0 ≤ (x5_1 : Int) := of_decide_eq_true (by first | (with_reducible assumption) | assumption)
           have q291 : x5_1 < (l1.length : Int) := of_decide_eq_true (by first | (with_reducible assumption) | assumption)
           obtain ⟨ad291, e291, hx291_0, hx291_1⟩ := at_T28 HR1.out x5_1 p291 q291
           obtain rfl : ad289 = ad291 := (by injection e291)
           replace p291 := eq_true p291
           replace q291 := eq_true q291
           have p292 : 0 ≤ (x5_1 : Int) := of_decide_eq_true (by first | (with_reducible assumption) | assumption)
           have q292 : x5_1 < (l0.length : Int) := of_decide_eq_true (by first | (with_reducible assumption) | assumption)
           obtain ⟨ad292, e292, hx292_0, hx292_1⟩ := at_T28 HR0.out x5_1 p292 q292
           obtain rfl : ad288 = ad292 := (by injection e292)
           replace p292 := eq_true p292
           replace q292 := eq_true q292
           have p293 : 0 ≤ (x5_1 : Int) := of_decide_eq_true (by first | (with_reducible assumption) | assumption)
           have q293 : x5_1 < (l1.length : Int) := of_decide_eq_true (by first | (with_reducible assumption) | assumption)
           obtain ⟨ad293, e293, hx293_0, hx293_1⟩ := at_T28 HR1.out x5_1 p293 q293
           obtain rfl : ad289 = ad293 := (by injection e293)
           replace p293 := eq_true p293
           replace q293 := eq_true q293
           go_wp2
           repeat (go_quiet (fail); try go_wp2)
           go_ret
           exact ⟨by first | rfl | (simp; done) | (simp [*]; done), by repeat (first | exact Drawn0.refl _ | apply Drawn0.step)⟩
         ·rw [if_neg c9] at H
          have c9b0 : (((rd_T28 l0 x5_1).f0) == ((rd_T28 l1 x5_1).f0)) = false := beq_eq_false_iff_ne.mpr c9
          have c9b1 : (((rd_T28 l0 x5_1).f0) != ((rd_T28 l1 x5_1).f0)) = true := bne_iff_ne.mpr c9
          obtain rfl := Option.some.inj H
          have p288 : 0 ≤ (x5_1 : Int) := of_decide_eq_true (by first | (with_reducible assumption) | assumption)
          have q288 : x5_1 < (l0.length : Int) := of_decide_eq_true (by first | (with_reducible assumption) | assumption)
          obtain ⟨ad288, e288, hx288_0, hx288_1⟩ := at_T28 HR0.out x5_1 p288 q288
          cases e288
          replace p288 := eq_true p288
          replace q288 := eq_true q288
          have p289 : 0 ≤ (x5_1 : Int) := of_decide_eq_true (by first | (with_reducible assumption) | assumption)
          have q289 : x5_1 < (l1.length : Int) := of_decide_eq_true (by first | (with_reducible assumption) | assumption)
          obtain ⟨ad289, e289, hx289_0, hx289_1⟩ := at_T28 HR1.out x5_1 p289 q289
          cases e289
          replace p289 := eq_true p289
          replace q289 := eq_true q289
          have p294 : 0 ≤ (x5_1 : Int) := of_decide_eq_true (by first | (with_reducible assumption) | assumption)
          have q294 : x5_1 < (l0.length : Int) := of_decide_eq_true (by first | (with_reducible assumption) | assumption)
          obtain ⟨ad294, e294, hx294_0, hx294_1⟩ := at_T28 HR0.out x5_1 p294 q294
          obtain rfl : ad288 = ad294 := (by injection e294)
          replace p294 := eq_true p294
          replace q294 := eq_true q294
          have p295 : 0 ≤ (x5_1 : Int) := of_decide_eq_true (by first | (with_reducible assumption) | assumption)
          have q295 : x5_1 < (l1.length : Int) := of_decide_eq_true (by first | (with_reducible assumption) | assumption)
          obtain ⟨ad295, e295, hx295_0, hx295_1⟩ := at_T28 HR1.out x5_1 p295 q295
          obtain rfl : ad289 = ad295 := (by injection e295)
          replace p295 := eq_true p295
          replace q295 := eq_true q295
          go_wp2
          repeat (go_quiet (fail); try go_wp2)
          go_ret
          exact ⟨by first | rfl | (simp; done) | (simp [*]; done), by repeat (first | exact Drawn0.refl _ | apply Drawn0.step)⟩
        ·rw [if_neg c8] at H
         exact absurd H (by simp)
       ·rw [if_neg c7] at H
        exact absurd H (by simp)
      ·rw [if_neg c6] at H
       exact absurd H (by simp)
     ·replace c5 := Bool.eq_false_iff.mpr c5
      subst c5
      have H1 : (some (decide ((l0.length : Int) < (l1.length : Int)))) = some r := by rw [if_neg (show ¬ (false = true) by decide)] at H; exact H
      clear H
      have H := H1
      clear H1
      obtain rfl := Option.some.inj H
      go_wp2
      repeat (go_quiet (fail); try go_wp2)
      go_ret
      exact ⟨by first | rfl | (simp; done) | (simp [*]; done), by repeat (first | exact Drawn0.refl _ | apply Drawn0.step)⟩

/-! ### tattinglaw23_CanonStays: function 7 -/
mutual
def tattinglaw23_CanonStays.j0 : Nat → List Int → List Int → List (S28) → Bool → Option (Bool)
 | 0, _, _, _, _ => none
 | k + 1, x0, x1, x2, x36 => if x36 = true then (some true) else ((tattingref1_Few.f k x0 3).bind fun t297 => ((tattingref1_Few.f k x1 3).bind fun t300 => ((tattingref7_Least.f k t297 t300).bind fun t303 => ((canon_Left.f k t297 t300 t303).bind fun bt306 => ((canon_Top.f k t297 t300 t303).bind fun bt310 => ((canon_Of.f k t297 t300 t303).bind fun bt314 => (if bt306.2 = 0 then (if bt310.2 = 0 then (if bt314.2 = 0 then ((tattingref1_SamePairs.f k bt306.1 t303).bind fun t318 => (if t318 = true then ((tattingref1_SamePairs.f k bt310.1 t303).bind fun t319 => (if t319 = true then ((tattingref1_SamePairs.f k bt314.1 t303).bind fun t320 => (tattinglaw23_CanonStays.j1 k x2 t297 t300 (!t320))) else (tattinglaw23_CanonStays.j1 k x2 t297 t300 true))) else (tattinglaw23_CanonStays.j1 k x2 t297 t300 true))) else (tattinglaw23_CanonStays.j1 k x2 t297 t300 true)) else (tattinglaw23_CanonStays.j1 k x2 t297 t300 true)) else (tattinglaw23_CanonStays.j1 k x2 t297 t300 true))))))))
def tattinglaw23_CanonStays.j1 : Nat → List (S28) → List Int → List Int → Bool → Option (Bool)
 | 0, _, _, _, _ => none
 | k + 1, x2, x7, x8, x92 => if x92 = true then (some false) else ((canon_Left.f k x7 x8 x2).bind fun bt321 => ((canon_Top.f k x7 x8 bt321.1).bind fun bt325 => ((tattingref7_Good.f k x7 x8 x2).bind fun t329 => (if t329 = true then ((canon_Left.f k x7 x8 bt321.1).bind fun bt330 => (if bt321.2 = 0 then (if bt325.2 = 0 then ((tattingref1_SamePairs.f k bt330.1 bt321.1).bind fun t334 => (if t334 = true then ((tattingref7_Good.f k x7 x8 bt321.1).bind fun t335 => (if t335 = true then ((tattingref7_Good.f k x7 x8 bt325.1).bind fun t336 => (if t336 = true then (if (bt321.1.length : Int) = (x2.length : Int) then (if (bt325.1.length : Int) = (x2.length : Int) then ((tattingref7_Less.f k x2 bt321.1).bind fun t337 => (if t337 = true then (some false) else ((tattingref7_Less.f k bt321.1 bt325.1).bind fun t338 => (some (!t338))))) else (some false)) else (some false)) else (some false))) else (some false))) else (some false))) else (some false)) else (some false))) else (if bt321.2 = 1 then (some ((bt321.1.length : Int) == 0)) else (some false))))))
end
def tattinglaw23_CanonStays.f (k : Nat) (l0 : List Int) (l1 : List Int) (l2 : List (S28)) : Option (Bool) := (tattinglaw23_awake.f k).bind fun t296 => (if t296 = true then (if (l0.length : Int) > 30 then (tattinglaw23_CanonStays.j0 k l0 l1 l2 true) else (if (l1.length : Int) > 30 then (tattinglaw23_CanonStays.j0 k l0 l1 l2 true) else (tattinglaw23_CanonStays.j0 k l0 l1 l2 (decide ((l2.length : Int) > 30))))) else (some false))
theorem tattinglaw23_CanonStays.mono_l : ∀ k, (∀ y0 y1 y2 y3, LeO (tattinglaw23_CanonStays.j0 k y0 y1 y2 y3) (tattinglaw23_CanonStays.j0 (k + 1) y0 y1 y2 y3)) ∧ (∀ y0 y1 y2 y3, LeO (tattinglaw23_CanonStays.j1 k y0 y1 y2 y3) (tattinglaw23_CanonStays.j1 (k + 1) y0 y1 y2 y3))
 | 0 => ⟨fun _ _ _ _ r h => by simp [tattinglaw23_CanonStays.j0] at h, fun _ _ _ _ r h => by simp [tattinglaw23_CanonStays.j1] at h⟩
 | k + 1 => by
  obtain ⟨ih0, ih1⟩ := tattinglaw23_CanonStays.mono_l k
  refine ⟨?_, ?_⟩
  ·intro y0 y1 y2 y3
   unfold tattinglaw23_CanonStays.j0
   repeat' first
   | (with_reducible exact ih0 _ _ _ _)
   | (with_reducible exact ih1 _ _ _ _)
   | (with_reducible exact canon_Left.mono _ _ _ _)
   | (with_reducible exact canon_Of.mono _ _ _ _)
   | (with_reducible exact canon_Top.mono _ _ _ _)
   | (with_reducible exact tattinglaw23_awake.mono _)
   | (with_reducible exact tattingref1_Few.mono _ _ _)
   | (with_reducible exact tattingref1_SamePairs.mono _ _ _)
   | (with_reducible exact tattingref7_Good.mono _ _ _ _)
   | (with_reducible exact tattingref7_Least.mono _ _ _)
   | (with_reducible exact tattingref7_Less.mono _ _ _)
   | (with_reducible exact LeO.refl _)
   | (with_reducible exact LeO.none _)
   | (with_reducible refine LeO.ite ?_ ?_)
   | (with_reducible refine LeO.bind ?_ (fun _ => ?_))
   | exact ih0 _ _ _ _
   | exact ih1 _ _ _ _
   | exact canon_Left.mono _ _ _ _
   | exact canon_Of.mono _ _ _ _
   | exact canon_Top.mono _ _ _ _
   | exact tattinglaw23_awake.mono _
   | exact tattingref1_Few.mono _ _ _
   | exact tattingref1_SamePairs.mono _ _ _
   | exact tattingref7_Good.mono _ _ _ _
   | exact tattingref7_Least.mono _ _ _
   | exact tattingref7_Less.mono _ _ _
   | exact LeO.none _
   | refine LeO.ite ?_ ?_
   | refine LeO.bind ?_ (fun _ => ?_)
  ·intro y0 y1 y2 y3
   unfold tattinglaw23_CanonStays.j1
   repeat' first
   | (with_reducible exact ih0 _ _ _ _)
   | (with_reducible exact ih1 _ _ _ _)
   | (with_reducible exact canon_Left.mono _ _ _ _)
   | (with_reducible exact canon_Of.mono _ _ _ _)
   | (with_reducible exact canon_Top.mono _ _ _ _)
   | (with_reducible exact tattinglaw23_awake.mono _)
   | (with_reducible exact tattingref1_Few.mono _ _ _)
   | (with_reducible exact tattingref1_SamePairs.mono _ _ _)
   | (with_reducible exact tattingref7_Good.mono _ _ _ _)
   | (with_reducible exact tattingref7_Least.mono _ _ _)
   | (with_reducible exact tattingref7_Less.mono _ _ _)
   | (with_reducible exact LeO.refl _)
   | (with_reducible exact LeO.none _)
   | (with_reducible refine LeO.ite ?_ ?_)
   | (with_reducible refine LeO.bind ?_ (fun _ => ?_))
   | exact ih0 _ _ _ _
   | exact ih1 _ _ _ _
   | exact canon_Left.mono _ _ _ _
   | exact canon_Of.mono _ _ _ _
   | exact canon_Top.mono _ _ _ _
   | exact tattinglaw23_awake.mono _
   | exact tattingref1_Few.mono _ _ _
   | exact tattingref1_SamePairs.mono _ _ _
   | exact tattingref7_Good.mono _ _ _ _
   | exact tattingref7_Least.mono _ _ _
   | exact tattingref7_Less.mono _ _ _
   | exact LeO.none _
   | refine LeO.ite ?_ ?_
   | refine LeO.bind ?_ (fun _ => ?_)
theorem tattinglaw23_CanonStays.mono : ∀ a0 a1 a2 k, LeO (tattinglaw23_CanonStays.f k a0 a1 a2) (tattinglaw23_CanonStays.f (k + 1) a0 a1 a2) := by
 intro a0 a1 a2 k
 obtain ⟨ih0, ih1⟩ := tattinglaw23_CanonStays.mono_l k
 unfold tattinglaw23_CanonStays.f
 repeat' first
   | (with_reducible exact ih0 _ _ _ _)
   | (with_reducible exact ih1 _ _ _ _)
   | (with_reducible exact canon_Left.mono _ _ _ _)
   | (with_reducible exact canon_Of.mono _ _ _ _)
   | (with_reducible exact canon_Top.mono _ _ _ _)
   | (with_reducible exact tattinglaw23_awake.mono _)
   | (with_reducible exact tattingref1_Few.mono _ _ _)
   | (with_reducible exact tattingref1_SamePairs.mono _ _ _)
   | (with_reducible exact tattingref7_Good.mono _ _ _ _)
   | (with_reducible exact tattingref7_Least.mono _ _ _)
   | (with_reducible exact tattingref7_Less.mono _ _ _)
   | (with_reducible exact LeO.refl _)
   | (with_reducible exact LeO.none _)
   | (with_reducible refine LeO.ite ?_ ?_)
   | (with_reducible refine LeO.bind ?_ (fun _ => ?_))
   | exact ih0 _ _ _ _
   | exact ih1 _ _ _ _
   | exact canon_Left.mono _ _ _ _
   | exact canon_Of.mono _ _ _ _
   | exact canon_Top.mono _ _ _ _
   | exact tattinglaw23_awake.mono _
   | exact tattingref1_Few.mono _ _ _
   | exact tattingref1_SamePairs.mono _ _ _
   | exact tattingref7_Good.mono _ _ _ _
   | exact tattingref7_Least.mono _ _ _
   | exact tattingref7_Less.mono _ _ _
   | exact LeO.none _
   | refine LeO.ite ?_ ?_
   | refine LeO.bind ?_ (fun _ => ?_)
set_option maxHeartbeats 8000000 in
set_option maxRecDepth 100000 in
theorem tattinglaw23_CanonStays.calls (k : Nat) (A0 : Option Addr) (c0 : Nat) (l0 : List Int) (A1 : Option Addr) (c1 : Nat) (l1 : List Int) (A2 : Option Addr) (c2 : Nat) (l2 : List (S28)) (r : Bool) (w : World) (hr0 : Kd.C (Kd.int .i64) w A0 l0.length l0) (hc0 : l0.length ≤ c0) (hr1 : Kd.C (Kd.int .i64) w A1 l1.length l1) (hc1 : l1.length ≤ c1) (hr2 : Kd.C k28 w A2 l2.length l2) (hc2 : l2.length ≤ c2) (h : tattinglaw23_CanonStays.f k l0 l1 l2 = some r) (hr_ : r = true) :
  Calls Try.prog 7 #[.slice A0 l0.length c0, .slice A1 l1.length c1, .slice A2 l2.length c2] w fun e w' => e = .returned (.bool r) ∧ Below w.heap.size w w' := by
 have HR0 := Aside0.mk hr0
 have HC0 := Aside0.mk hc0
 clear hr0 hc0
 have HR1 := Aside0.mk hr1
 have HC1 := Aside0.mk hc1
 clear hr1 hc1
 have HR2 := Aside0.mk hr2
 have HC2 := Aside0.mk hc2
 clear hr2 hc2
 have HB := Aside0.mk (Below.refl w.heap.size w)
 have H : ((tattinglaw23_awake.f k).bind fun t296 => (if t296 = true then (if (l0.length : Int) > 30 then (tattinglaw23_CanonStays.j0 k l0 l1 l2 true) else (if (l1.length : Int) > 30 then (tattinglaw23_CanonStays.j0 k l0 l1 l2 true) else (tattinglaw23_CanonStays.j0 k l0 l1 l2 (decide ((l2.length : Int) > 30))))) else (some false))) = some r := h
 clear h
 replace H := Option.bind_eq_some_iff.mp H
 obtain ⟨t296, A40, H⟩ := H
 replace H : (if t296 = true then (if (l0.length : Int) > 30 then (tattinglaw23_CanonStays.j0 k l0 l1 l2 true) else (if (l1.length : Int) > 30 then (tattinglaw23_CanonStays.j0 k l0 l1 l2 true) else (tattinglaw23_CanonStays.j0 k l0 l1 l2 (decide ((l2.length : Int) > 30))))) else (some false)) = some r := H
 have A4 := Aside0.mk A40
 clear A40
 by_cases c5 : t296 = true
 ·subst c5
  have H1 : (if (l0.length : Int) > 30 then (tattinglaw23_CanonStays.j0 k l0 l1 l2 true) else (if (l1.length : Int) > 30 then (tattinglaw23_CanonStays.j0 k l0 l1 l2 true) else (tattinglaw23_CanonStays.j0 k l0 l1 l2 (decide ((l2.length : Int) > 30))))) = some r := by rw [if_pos rfl] at H; exact H
  clear H
  have H := H1
  clear H1
  have HC6 := Aside0.mk H
  clear H
  go_enter Try.func7, Try.ntmps7
  go_upto_region 3 with (first | ((first | (with_reducible refine gate_callee (f := 11) rfl ?_); refine goesL_ (some 22) rfl rfl Try.func11 (by kernel_rfl) rfl #[] rfl (by (try simp only [List.map_toArray, List.map_cons, List.map_nil]); first | done | rfl | (simp only [List.length_drop, List.length_take]; rfl)) ?_ | go_at_call 11); (with_reducible refine (tattinglaw23_awake.calls k  true _ A4.out rfl).mono ?_); rintro e w7 ⟨rfl, hb⟩; (try refine ⟨_, rfl, ?_⟩); have n0_ := Aside0.mk (below_step (by repeat (first | (with_reducible first | exact HB.out | apply below_alloc | apply pw_below_drewN | apply below_drew1) | exact HB.out)) hb); clear HB; have HB := n0_; clear n0_; (try clear hb); (try clear hb2); (try clear hk); (try clear hi)))
  (try simp only [Act.put, sA,sB,sC])
  go_cut [36] (fun v36 wc => ∃ (kq : Nat) (x36_5 : Bool), v36 = .bool x36_5 ∧ Aside0 (tattinglaw23_CanonStays.j0 kq l0 l1 l2 x36_5 = some r) ∧ Aside0 (kq ≤ k) ∧ Aside0 (Below w.heap.size w wc))
  case first =>
   have H := HC6.out
   clear HC6
   by_cases c8 : (l0.length : Int) > 30
   ·rw [if_pos c8] at H
    have c8b0 : decide (30 < (l0.length : Int)) = true := decide_eq_true c8
    have c8b1 : decide (30 < l0.length) = true := decide_eq_true (by omega)
    clear c8
    (first | rw [c8b0] | (simp only [i64_w, i32_w]; rw [c8b0]) | skip)
    have H' := Aside0.mk H
    clear H
    go_wp2
    go_meet
    case rel => exact ⟨_, (true), (by first | rfl | (simp; done) | (simp [*]; done)), H', ⟨by first | omega | exact Nat.le_refl _⟩, ⟨by repeat (first | (with_reducible first | exact HB.out | apply below_alloc | apply pw_below_drewN | apply below_drew1) | exact HB.out)⟩⟩
   ·rw [if_neg c8] at H
    have c8b0 : decide (30 < (l0.length : Int)) = false := decide_eq_false c8
    have c8b1 : decide (30 < l0.length) = false := decide_eq_false (by omega)
    clear c8
    (first | rw [c8b0] | (simp only [i64_w, i32_w]; rw [c8b0]) | skip)
    by_cases c9 : (l1.length : Int) > 30
    ·rw [if_pos c9] at H
     have c9b0 : decide (30 < (l1.length : Int)) = true := decide_eq_true c9
     have c9b1 : decide (30 < l1.length) = true := decide_eq_true (by omega)
     clear c9
     have H' := Aside0.mk H
     clear H
     go_wp2
     go_meet
     case rel => exact ⟨_, (true), (by first | rfl | (simp; done) | (simp [*]; done)), H', ⟨by first | omega | exact Nat.le_refl _⟩, ⟨by repeat (first | (with_reducible first | exact HB.out | apply below_alloc | apply pw_below_drewN | apply below_drew1) | exact HB.out)⟩⟩
    ·rw [if_neg c9] at H
     have c9b0 : decide (30 < (l1.length : Int)) = false := decide_eq_false c9
     have c9b1 : decide (30 < l1.length) = false := decide_eq_false (by omega)
     clear c9
     have H' := Aside0.mk H
     clear H
     go_wp2
     go_meet
     case rel => exact ⟨_, (decide ((l2.length : Int) > 30)), (by first | rfl | (simp; done) | (simp [*]; done)), H', ⟨by first | omega | exact Nat.le_refl _⟩, ⟨by repeat (first | (with_reducible first | exact HB.out | apply below_alloc | apply pw_below_drewN | apply below_drew1) | exact HB.out)⟩⟩
  case rest =>
   clear HC6
   try clear c1
   try clear c2
   try clear p2
   try clear c5
   try clear c7
   try clear c8
   try clear c8b0
   try clear c8b1
   try clear c9
   try clear c9b0
   try clear c9b1
   obtain ⟨kq, x36_5, rfl, HA, HJ5, HB⟩ := hcut
   cases kq with
   | zero => exact absurd HA.out (by simp [tattinglaw23_CanonStays.j0])
   | succ kj5 =>
    have H := HA.out
    clear HA
    simp only [tattinglaw23_CanonStays.j0] at H
    by_cases c10 : x36_5 = true
    ·subst c10
     have H1 : (some true) = some r := by rw [if_pos rfl] at H; exact H
     clear H
     have H := H1
     clear H1
     obtain rfl := Option.some.inj H
     go_wp2
     go_ret
     exact ⟨by first | rfl | (simp [errW_none, errW_some] <;> rfl) | (simp [*, errW_none, errW_some] <;> rfl), by repeat (first | (with_reducible first | exact HB.out | apply below_alloc | apply pw_below_drewN | apply below_drew1) | exact HB.out)⟩
    ·replace c10 := Bool.eq_false_iff.mpr c10
     subst c10
     have H1 : ((tattingref1_Few.f kj5 l0 3).bind fun t297 => ((tattingref1_Few.f kj5 l1 3).bind fun t300 => ((tattingref7_Least.f kj5 t297 t300).bind fun t303 => ((canon_Left.f kj5 t297 t300 t303).bind fun bt306 => ((canon_Top.f kj5 t297 t300 t303).bind fun bt310 => ((canon_Of.f kj5 t297 t300 t303).bind fun bt314 => (if bt306.2 = 0 then (if bt310.2 = 0 then (if bt314.2 = 0 then ((tattingref1_SamePairs.f kj5 bt306.1 t303).bind fun t318 => (if t318 = true then ((tattingref1_SamePairs.f kj5 bt310.1 t303).bind fun t319 => (if t319 = true then ((tattingref1_SamePairs.f kj5 bt314.1 t303).bind fun t320 => (tattinglaw23_CanonStays.j1 kj5 l2 t297 t300 (!t320))) else (tattinglaw23_CanonStays.j1 kj5 l2 t297 t300 true))) else (tattinglaw23_CanonStays.j1 kj5 l2 t297 t300 true))) else (tattinglaw23_CanonStays.j1 kj5 l2 t297 t300 true)) else (tattinglaw23_CanonStays.j1 kj5 l2 t297 t300 true)) else (tattinglaw23_CanonStays.j1 kj5 l2 t297 t300 true)))))))) = some r := by rw [if_neg (show ¬ (false = true) by decide)] at H; exact H
     clear H
     have H := H1
     clear H1
     replace H := Option.bind_eq_some_iff.mp H
     obtain ⟨t297, A110, H⟩ := H
     replace H : ((tattingref1_Few.f kj5 l1 3).bind fun t300 => ((tattingref7_Least.f kj5 t297 t300).bind fun t303 => ((canon_Left.f kj5 t297 t300 t303).bind fun bt306 => ((canon_Top.f kj5 t297 t300 t303).bind fun bt310 => ((canon_Of.f kj5 t297 t300 t303).bind fun bt314 => (if bt306.2 = 0 then (if bt310.2 = 0 then (if bt314.2 = 0 then ((tattingref1_SamePairs.f kj5 bt306.1 t303).bind fun t318 => (if t318 = true then ((tattingref1_SamePairs.f kj5 bt310.1 t303).bind fun t319 => (if t319 = true then ((tattingref1_SamePairs.f kj5 bt314.1 t303).bind fun t320 => (tattinglaw23_CanonStays.j1 kj5 l2 t297 t300 (!t320))) else (tattinglaw23_CanonStays.j1 kj5 l2 t297 t300 true))) else (tattinglaw23_CanonStays.j1 kj5 l2 t297 t300 true))) else (tattinglaw23_CanonStays.j1 kj5 l2 t297 t300 true)) else (tattinglaw23_CanonStays.j1 kj5 l2 t297 t300 true)) else (tattinglaw23_CanonStays.j1 kj5 l2 t297 t300 true))))))) = some r := H
     have A11 := Aside0.mk A110
     clear A110
     replace H := Option.bind_eq_some_iff.mp H
     obtain ⟨t300, A120, H⟩ := H
     replace H : ((tattingref7_Least.f kj5 t297 t300).bind fun t303 => ((canon_Left.f kj5 t297 t300 t303).bind fun bt306 => ((canon_Top.f kj5 t297 t300 t303).bind fun bt310 => ((canon_Of.f kj5 t297 t300 t303).bind fun bt314 => (if bt306.2 = 0 then (if bt310.2 = 0 then (if bt314.2 = 0 then ((tattingref1_SamePairs.f kj5 bt306.1 t303).bind fun t318 => (if t318 = true then ((tattingref1_SamePairs.f kj5 bt310.1 t303).bind fun t319 => (if t319 = true then ((tattingref1_SamePairs.f kj5 bt314.1 t303).bind fun t320 => (tattinglaw23_CanonStays.j1 kj5 l2 t297 t300 (!t320))) else (tattinglaw23_CanonStays.j1 kj5 l2 t297 t300 true))) else (tattinglaw23_CanonStays.j1 kj5 l2 t297 t300 true))) else (tattinglaw23_CanonStays.j1 kj5 l2 t297 t300 true)) else (tattinglaw23_CanonStays.j1 kj5 l2 t297 t300 true)) else (tattinglaw23_CanonStays.j1 kj5 l2 t297 t300 true)))))) = some r := H
     have A12 := Aside0.mk A120
     clear A120
     replace H := Option.bind_eq_some_iff.mp H
     obtain ⟨t303, A130, H⟩ := H
     replace H : ((canon_Left.f kj5 t297 t300 t303).bind fun bt306 => ((canon_Top.f kj5 t297 t300 t303).bind fun bt310 => ((canon_Of.f kj5 t297 t300 t303).bind fun bt314 => (if bt306.2 = 0 then (if bt310.2 = 0 then (if bt314.2 = 0 then ((tattingref1_SamePairs.f kj5 bt306.1 t303).bind fun t318 => (if t318 = true then ((tattingref1_SamePairs.f kj5 bt310.1 t303).bind fun t319 => (if t319 = true then ((tattingref1_SamePairs.f kj5 bt314.1 t303).bind fun t320 => (tattinglaw23_CanonStays.j1 kj5 l2 t297 t300 (!t320))) else (tattinglaw23_CanonStays.j1 kj5 l2 t297 t300 true))) else (tattinglaw23_CanonStays.j1 kj5 l2 t297 t300 true))) else (tattinglaw23_CanonStays.j1 kj5 l2 t297 t300 true)) else (tattinglaw23_CanonStays.j1 kj5 l2 t297 t300 true)) else (tattinglaw23_CanonStays.j1 kj5 l2 t297 t300 true))))) = some r := H
     have A13 := Aside0.mk A130
     clear A130
     replace H := Option.bind_eq_some_iff.mp H
     obtain ⟨⟨t306, t307⟩, A140, H⟩ := H
     replace H : ((canon_Top.f kj5 t297 t300 t303).bind fun bt310 => ((canon_Of.f kj5 t297 t300 t303).bind fun bt314 => (if t307 = 0 then (if bt310.2 = 0 then (if bt314.2 = 0 then ((tattingref1_SamePairs.f kj5 t306 t303).bind fun t318 => (if t318 = true then ((tattingref1_SamePairs.f kj5 bt310.1 t303).bind fun t319 => (if t319 = true then ((tattingref1_SamePairs.f kj5 bt314.1 t303).bind fun t320 => (tattinglaw23_CanonStays.j1 kj5 l2 t297 t300 (!t320))) else (tattinglaw23_CanonStays.j1 kj5 l2 t297 t300 true))) else (tattinglaw23_CanonStays.j1 kj5 l2 t297 t300 true))) else (tattinglaw23_CanonStays.j1 kj5 l2 t297 t300 true)) else (tattinglaw23_CanonStays.j1 kj5 l2 t297 t300 true)) else (tattinglaw23_CanonStays.j1 kj5 l2 t297 t300 true)))) = some r := H
     have A14 := Aside0.mk A140
     clear A140
     replace H := Option.bind_eq_some_iff.mp H
     obtain ⟨⟨t310, t311⟩, A150, H⟩ := H
     replace H : ((canon_Of.f kj5 t297 t300 t303).bind fun bt314 => (if t307 = 0 then (if t311 = 0 then (if bt314.2 = 0 then ((tattingref1_SamePairs.f kj5 t306 t303).bind fun t318 => (if t318 = true then ((tattingref1_SamePairs.f kj5 t310 t303).bind fun t319 => (if t319 = true then ((tattingref1_SamePairs.f kj5 bt314.1 t303).bind fun t320 => (tattinglaw23_CanonStays.j1 kj5 l2 t297 t300 (!t320))) else (tattinglaw23_CanonStays.j1 kj5 l2 t297 t300 true))) else (tattinglaw23_CanonStays.j1 kj5 l2 t297 t300 true))) else (tattinglaw23_CanonStays.j1 kj5 l2 t297 t300 true)) else (tattinglaw23_CanonStays.j1 kj5 l2 t297 t300 true)) else (tattinglaw23_CanonStays.j1 kj5 l2 t297 t300 true))) = some r := H
     have A15 := Aside0.mk A150
     clear A150
     replace H := Option.bind_eq_some_iff.mp H
     obtain ⟨⟨t314, t315⟩, A160, H⟩ := H
     replace H : (if t307 = 0 then (if t311 = 0 then (if t315 = 0 then ((tattingref1_SamePairs.f kj5 t306 t303).bind fun t318 => (if t318 = true then ((tattingref1_SamePairs.f kj5 t310 t303).bind fun t319 => (if t319 = true then ((tattingref1_SamePairs.f kj5 t314 t303).bind fun t320 => (tattinglaw23_CanonStays.j1 kj5 l2 t297 t300 (!t320))) else (tattinglaw23_CanonStays.j1 kj5 l2 t297 t300 true))) else (tattinglaw23_CanonStays.j1 kj5 l2 t297 t300 true))) else (tattinglaw23_CanonStays.j1 kj5 l2 t297 t300 true)) else (tattinglaw23_CanonStays.j1 kj5 l2 t297 t300 true)) else (tattinglaw23_CanonStays.j1 kj5 l2 t297 t300 true)) = some r := H
     have A16 := Aside0.mk A160
     clear A160
     have HC17 := Aside0.mk H
     clear H
     go_upto_region 10 with (first | ((first | (with_reducible refine gate_callee (f := 13) rfl ?_); refine goesL_ (some 38) rfl rfl Try.func13 (by kernel_rfl) rfl #[.slice A0 l0.length c0, .int .i64 3] rfl (by (try simp only [List.map_toArray, List.map_cons, List.map_nil]); first | done | rfl | (simp only [List.length_drop, List.length_take]; rfl)) ?_ | go_at_call 13); (with_reducible refine (tattingref1_Few.calls kj5 _ _ l0 3 t297 _ ?side1 ?side2 A11.out).mono ?_); (case side1 => repeat (first | exact (Kd.C_below HR0.out HB.out) | (with_reducible refine Kd.C_alloc ?_ _) | (with_reducible refine Kd.C_drewN ?_ _) | (with_reducible refine Kd.C_drew ?_))); (case side2 => exact HC0.out); rintro e w18 ⟨v298, rfl, ho0, hb⟩; (try refine ⟨_, rfl, ?_⟩); have n0_ := Aside0.mk (Kd.R_lower ho0 (below_size (by repeat (first | (with_reducible first | exact HB.out | apply below_alloc | apply pw_below_drewN | apply below_drew1) | exact HB.out)))); have n1_ := Aside0.mk (below_step (by repeat (first | (with_reducible first | exact HB.out | apply below_alloc | apply pw_below_drewN | apply below_drew1) | exact HB.out)) hb); clear HB; have HO299 := n0_; have HB := n1_; clear n0_ n1_; (try clear hb); (try clear hb2); (try clear hk); (try clear hi); (try clear ho0)) | ((first | (with_reducible refine gate_callee (f := 13) rfl ?_); refine goesL_ (some 40) rfl rfl Try.func13 (by kernel_rfl) rfl #[.slice A1 l1.length c1, .int .i64 3] rfl (by (try simp only [List.map_toArray, List.map_cons, List.map_nil]); first | done | rfl | (simp only [List.length_drop, List.length_take]; rfl)) ?_ | go_at_call 13); (with_reducible refine (tattingref1_Few.calls kj5 _ _ l1 3 t300 _ ?side1 ?side2 A12.out).mono ?_); (case side1 => repeat (first | exact (Kd.C_below HR1.out HB.out) | (with_reducible refine Kd.C_alloc ?_ _) | (with_reducible refine Kd.C_drewN ?_ _) | (with_reducible refine Kd.C_drew ?_))); (case side2 => exact HC1.out); rintro e w19 ⟨v301, rfl, ho0, hb⟩; (try refine ⟨_, rfl, ?_⟩); have n0_ := Aside0.mk (Kd.R_elder' (by (with_reducible repeat (first | apply Kd.R_alloc | apply Kd.R_drewN | apply Kd.R_drew)); exact HO299.out) (Kd.R_base ho0) hb); have n1_ := Aside0.mk (Kd.R_lower (Kd.R_new' ho0 (Kd.R_lt (by (with_reducible repeat (first | apply Kd.R_alloc | apply Kd.R_drewN | apply Kd.R_drew)); exact HO299.out))) (below_size (by repeat (first | (with_reducible first | exact HB.out | apply below_alloc | apply pw_below_drewN | apply below_drew1) | exact HB.out)))); have n2_ := Aside0.mk (below_step (by repeat (first | (with_reducible first | exact HB.out | apply below_alloc | apply pw_below_drewN | apply below_drew1) | exact HB.out)) hb); clear HO299; clear HB; have HO299 := n0_; have HO302 := n1_; have HB := n2_; clear n0_ n1_ n2_; (try clear hb); (try clear hb2); (try clear hk); (try clear hi); (try clear ho0); obtain ⟨Ao20, co20, eo20⟩ := Kd.R_slice HO299.out; subst eo20; obtain ⟨Ao21, co21, eo21⟩ := Kd.R_slice HO302.out; subst eo21) | ((first | (with_reducible refine gate_callee (f := 17) rfl ?_); refine goesL_ (some 43) rfl rfl Try.func17 (by kernel_rfl) rfl #[.slice Ao20 t297.length co20, .slice Ao21 t300.length co21] rfl (by (try simp only [List.map_toArray, List.map_cons, List.map_nil]); first | done | rfl | (simp only [List.length_drop, List.length_take]; rfl)) ?_ | go_at_call 17); (with_reducible refine (tattingref7_Least.calls kj5 _ _ t297 _ _ t300 t303 _ ?side1 ?side2 ?side3 ?side4 A13.out).mono ?_); (case side1 => repeat (first | exact (Kd.R_reads' HO299.out).2.2 | (with_reducible refine Kd.C_alloc ?_ _) | (with_reducible refine Kd.C_drewN ?_ _) | (with_reducible refine Kd.C_drew ?_))); (case side2 => exact (Kd.R_reads' HO299.out).2.1); (case side3 => repeat (first | exact (Kd.R_reads' HO302.out).2.2 | (with_reducible refine Kd.C_alloc ?_ _) | (with_reducible refine Kd.C_drewN ?_ _) | (with_reducible refine Kd.C_drew ?_))); (case side4 => exact (Kd.R_reads' HO302.out).2.1); rintro e w22 ⟨v304, rfl, ho0, hb⟩; (try refine ⟨_, rfl, ?_⟩); have n0_ := Aside0.mk (Kd.R_below (by (with_reducible repeat (first | apply Kd.R_alloc | apply Kd.R_drewN | apply Kd.R_drew)); exact HO299.out) hb); have n1_ := Aside0.mk (Kd.R_below (by (with_reducible repeat (first | apply Kd.R_alloc | apply Kd.R_drewN | apply Kd.R_drew)); exact HO302.out) hb); have n2_ := Aside0.mk (Kd.R_lower ho0 (below_size (by repeat (first | (with_reducible first | exact HB.out | apply below_alloc | apply pw_below_drewN | apply below_drew1) | exact HB.out)))); have n3_ := Aside0.mk (below_step (by repeat (first | (with_reducible first | exact HB.out | apply below_alloc | apply pw_below_drewN | apply below_drew1) | exact HB.out)) hb); clear HO299; clear HO302; clear HB; have HO299 := n0_; have HO302 := n1_; have HO305 := n2_; have HB := n3_; clear n0_ n1_ n2_ n3_; (try clear hb); (try clear hb2); (try clear hk); (try clear hi); (try clear ho0); obtain ⟨Ao23, co23, eo23⟩ := Kd.R_slice HO305.out; subst eo23) | ((first | (with_reducible refine gate_callee (f := 9) rfl ?_); refine goesL_ (some 48) rfl rfl Try.func9 (by kernel_rfl) rfl #[.slice Ao20 t297.length co20, .slice Ao21 t300.length co21, .slice Ao23 t303.length co23] rfl (by (try simp only [List.map_toArray, List.map_cons, List.map_nil]); first | done | rfl | (simp only [List.length_drop, List.length_take]; rfl)) ?_ | go_at_call 9); (with_reducible refine (canon_Left.calls kj5 _ _ t297 _ _ t300 _ _ t303 t306 t307 _ ?side1 ?side2 ?side3 ?side4 ?side5 ?side6 A14.out).mono ?_); (case side1 => repeat (first | exact (Kd.R_reads' HO299.out).2.2 | (with_reducible refine Kd.C_alloc ?_ _) | (with_reducible refine Kd.C_drewN ?_ _) | (with_reducible refine Kd.C_drew ?_))); (case side2 => exact (Kd.R_reads' HO299.out).2.1); (case side3 => repeat (first | exact (Kd.R_reads' HO302.out).2.2 | (with_reducible refine Kd.C_alloc ?_ _) | (with_reducible refine Kd.C_drewN ?_ _) | (with_reducible refine Kd.C_drew ?_))); (case side4 => exact (Kd.R_reads' HO302.out).2.1); (case side5 => repeat (first | exact (Kd.R_reads' HO305.out).2.2 | (with_reducible refine Kd.C_alloc ?_ _) | (with_reducible refine Kd.C_drewN ?_ _) | (with_reducible refine Kd.C_drew ?_))); (case side6 => exact (Kd.R_reads' HO305.out).2.1); rintro e w24 ⟨v308, rfl, ho0, hb⟩; (try refine ⟨_, rfl, ?_⟩); have n0_ := Aside0.mk (Kd.R_below (by (with_reducible repeat (first | apply Kd.R_alloc | apply Kd.R_drewN | apply Kd.R_drew)); exact HO299.out) hb); have n1_ := Aside0.mk (Kd.R_below (by (with_reducible repeat (first | apply Kd.R_alloc | apply Kd.R_drewN | apply Kd.R_drew)); exact HO302.out) hb); have n2_ := Aside0.mk (Kd.R_elder' (by (with_reducible repeat (first | apply Kd.R_alloc | apply Kd.R_drewN | apply Kd.R_drew)); exact HO305.out) (Kd.R_base ho0) hb); have n3_ := Aside0.mk (Kd.R_lower (Kd.R_new' ho0 (Kd.R_lt (by (with_reducible repeat (first | apply Kd.R_alloc | apply Kd.R_drewN | apply Kd.R_drew)); exact HO305.out))) (below_size (by repeat (first | (with_reducible first | exact HB.out | apply below_alloc | apply pw_below_drewN | apply below_drew1) | exact HB.out)))); have n4_ := Aside0.mk (below_step (by repeat (first | (with_reducible first | exact HB.out | apply below_alloc | apply pw_below_drewN | apply below_drew1) | exact HB.out)) hb); clear HO299; clear HO302; clear HO305; clear HB; have HO299 := n0_; have HO302 := n1_; have HO305 := n2_; have HO309 := n3_; have HB := n4_; clear n0_ n1_ n2_ n3_ n4_; (try clear hb); (try clear hb2); (try clear hk); (try clear hi); (try clear ho0)) | ((first | (with_reducible refine gate_callee (f := 10) rfl ?_); refine goesL_ (some 55) rfl rfl Try.func10 (by kernel_rfl) rfl #[.slice Ao20 t297.length co20, .slice Ao21 t300.length co21, .slice Ao23 t303.length co23] rfl (by (try simp only [List.map_toArray, List.map_cons, List.map_nil]); first | done | rfl | (simp only [List.length_drop, List.length_take]; rfl)) ?_ | go_at_call 10); (with_reducible refine (canon_Top.calls kj5 _ _ t297 _ _ t300 _ _ t303 t310 t311 _ ?side1 ?side2 ?side3 ?side4 ?side5 ?side6 A15.out).mono ?_); (case side1 => repeat (first | exact (Kd.R_reads' HO299.out).2.2 | (with_reducible refine Kd.C_alloc ?_ _) | (with_reducible refine Kd.C_drewN ?_ _) | (with_reducible refine Kd.C_drew ?_))); (case side2 => exact (Kd.R_reads' HO299.out).2.1); (case side3 => repeat (first | exact (Kd.R_reads' HO302.out).2.2 | (with_reducible refine Kd.C_alloc ?_ _) | (with_reducible refine Kd.C_drewN ?_ _) | (with_reducible refine Kd.C_drew ?_))); (case side4 => exact (Kd.R_reads' HO302.out).2.1); (case side5 => repeat (first | exact (Kd.R_reads' HO305.out).2.2 | (with_reducible refine Kd.C_alloc ?_ _) | (with_reducible refine Kd.C_drewN ?_ _) | (with_reducible refine Kd.C_drew ?_))); (case side6 => exact (Kd.R_reads' HO305.out).2.1); rintro e w25 ⟨v312, rfl, ho0, hb⟩; (try refine ⟨_, rfl, ?_⟩); have n0_ := Aside0.mk (Kd.R_below (by (with_reducible repeat (first | apply Kd.R_alloc | apply Kd.R_drewN | apply Kd.R_drew)); exact HO299.out) hb); have n1_ := Aside0.mk (Kd.R_below (by (with_reducible repeat (first | apply Kd.R_alloc | apply Kd.R_drewN | apply Kd.R_drew)); exact HO302.out) hb); have n2_ := Aside0.mk (Kd.R_elder' (by (with_reducible repeat (first | apply Kd.R_alloc | apply Kd.R_drewN | apply Kd.R_drew)); exact HO305.out) (Kd.R_base ho0) hb); have n3_ := Aside0.mk (Kd.R_elder' (by (with_reducible repeat (first | apply Kd.R_alloc | apply Kd.R_drewN | apply Kd.R_drew)); exact HO309.out) (Kd.R_base ho0) hb); have n4_ := Aside0.mk (Kd.R_lower (Kd.R_new' (Kd.R_new' ho0 (Kd.R_lt (by (with_reducible repeat (first | apply Kd.R_alloc | apply Kd.R_drewN | apply Kd.R_drew)); exact HO305.out))) (Kd.R_lt (by (with_reducible repeat (first | apply Kd.R_alloc | apply Kd.R_drewN | apply Kd.R_drew)); exact HO309.out))) (below_size (by repeat (first | (with_reducible first | exact HB.out | apply below_alloc | apply pw_below_drewN | apply below_drew1) | exact HB.out)))); have n5_ := Aside0.mk (below_step (by repeat (first | (with_reducible first | exact HB.out | apply below_alloc | apply pw_below_drewN | apply below_drew1) | exact HB.out)) hb); clear HO299; clear HO302; clear HO305; clear HO309; clear HB; have HO299 := n0_; have HO302 := n1_; have HO305 := n2_; have HO309 := n3_; have HO313 := n4_; have HB := n5_; clear n0_ n1_ n2_ n3_ n4_ n5_; (try clear hb); (try clear hb2); (try clear hk); (try clear hi); (try clear ho0)) | ((first | (with_reducible refine gate_callee (f := 8) rfl ?_); refine goesL_ (some 62) rfl rfl Try.func8 (by kernel_rfl) rfl #[.slice Ao20 t297.length co20, .slice Ao21 t300.length co21, .slice Ao23 t303.length co23] rfl (by (try simp only [List.map_toArray, List.map_cons, List.map_nil]); first | done | rfl | (simp only [List.length_drop, List.length_take]; rfl)) ?_ | go_at_call 8); (with_reducible refine (canon_Of.calls kj5 _ _ t297 _ _ t300 _ _ t303 t314 t315 _ ?side1 ?side2 ?side3 ?side4 ?side5 ?side6 A16.out).mono ?_); (case side1 => repeat (first | exact (Kd.R_reads' HO299.out).2.2 | (with_reducible refine Kd.C_alloc ?_ _) | (with_reducible refine Kd.C_drewN ?_ _) | (with_reducible refine Kd.C_drew ?_))); (case side2 => exact (Kd.R_reads' HO299.out).2.1); (case side3 => repeat (first | exact (Kd.R_reads' HO302.out).2.2 | (with_reducible refine Kd.C_alloc ?_ _) | (with_reducible refine Kd.C_drewN ?_ _) | (with_reducible refine Kd.C_drew ?_))); (case side4 => exact (Kd.R_reads' HO302.out).2.1); (case side5 => repeat (first | exact (Kd.R_reads' HO305.out).2.2 | (with_reducible refine Kd.C_alloc ?_ _) | (with_reducible refine Kd.C_drewN ?_ _) | (with_reducible refine Kd.C_drew ?_))); (case side6 => exact (Kd.R_reads' HO305.out).2.1); rintro e w26 ⟨v316, rfl, ho0, hb⟩; (try refine ⟨_, rfl, ?_⟩); have n0_ := Aside0.mk (Kd.R_below (by (with_reducible repeat (first | apply Kd.R_alloc | apply Kd.R_drewN | apply Kd.R_drew)); exact HO299.out) hb); have n1_ := Aside0.mk (Kd.R_below (by (with_reducible repeat (first | apply Kd.R_alloc | apply Kd.R_drewN | apply Kd.R_drew)); exact HO302.out) hb); have n2_ := Aside0.mk (Kd.R_elder' (by (with_reducible repeat (first | apply Kd.R_alloc | apply Kd.R_drewN | apply Kd.R_drew)); exact HO305.out) (Kd.R_base ho0) hb); have n3_ := Aside0.mk (Kd.R_elder' (by (with_reducible repeat (first | apply Kd.R_alloc | apply Kd.R_drewN | apply Kd.R_drew)); exact HO309.out) (Kd.R_base ho0) hb); have n4_ := Aside0.mk (Kd.R_elder' (by (with_reducible repeat (first | apply Kd.R_alloc | apply Kd.R_drewN | apply Kd.R_drew)); exact HO313.out) (Kd.R_base ho0) hb); have n5_ := Aside0.mk (Kd.R_lower (Kd.R_new' (Kd.R_new' (Kd.R_new' ho0 (Kd.R_lt (by (with_reducible repeat (first | apply Kd.R_alloc | apply Kd.R_drewN | apply Kd.R_drew)); exact HO305.out))) (Kd.R_lt (by (with_reducible repeat (first | apply Kd.R_alloc | apply Kd.R_drewN | apply Kd.R_drew)); exact HO309.out))) (Kd.R_lt (by (with_reducible repeat (first | apply Kd.R_alloc | apply Kd.R_drewN | apply Kd.R_drew)); exact HO313.out))) (below_size (by repeat (first | (with_reducible first | exact HB.out | apply below_alloc | apply pw_below_drewN | apply below_drew1) | exact HB.out)))); have n6_ := Aside0.mk (below_step (by repeat (first | (with_reducible first | exact HB.out | apply below_alloc | apply pw_below_drewN | apply below_drew1) | exact HB.out)) hb); clear HO299; clear HO302; clear HO305; clear HO309; clear HO313; clear HB; have HO299 := n0_; have HO302 := n1_; have HO305 := n2_; have HO309 := n3_; have HO313 := n4_; have HO317 := n5_; have HB := n6_; clear n0_ n1_ n2_ n3_ n4_ n5_ n6_; (try clear hb); (try clear hb2); (try clear hk); (try clear hi); (try clear ho0)))
     (try simp only [Act.put, sA,sB,sC])
     go_cut [92] (fun v92 wc => ∃ (kq : Nat) (x92_16 : Bool), v92 = .bool x92_16 ∧ Aside0 (tattinglaw23_CanonStays.j1 kq l2 t297 t300 x92_16 = some r) ∧ Aside0 (kq ≤ kj5) ∧ Aside0 (Kd.R (Kd.int .i64) 3 wc w.heap.size (fun k_ => some k_ ≠ ((.slice Ao21 t300.length co21) : Value).ownBlock) (.slice Ao20 t297.length co20) t297) ∧ Aside0 (Kd.R (Kd.int .i64) 3 wc w.heap.size (fun k_ => some k_ ≠ ((.slice Ao20 t297.length co20) : Value).ownBlock) (.slice Ao21 t300.length co21) t300) ∧ Aside0 (Below w.heap.size w wc))
     case first =>
      have H := HC17.out
      clear HC17
      by_cases c27 : t307 = 0
      ·rw [if_pos c27] at H
       have c27b0 : (t307 == 0) = true := beq_iff_eq.mpr c27
       have c27b1 : (t307 != 0) = false := bne_eq_false_iff_eq.mpr c27
       clear c27
       (first | rw [c27b0] | (simp only [i64_w, i32_w]; rw [c27b0]) | skip)
       by_cases c28 : t311 = 0
       ·rw [if_pos c28] at H
        have c28b0 : (t311 == 0) = true := beq_iff_eq.mpr c28
        have c28b1 : (t311 != 0) = false := bne_eq_false_iff_eq.mpr c28
        clear c28
        by_cases c29 : t315 = 0
        ·rw [if_pos c29] at H
         have c29b0 : (t315 == 0) = true := beq_iff_eq.mpr c29
         have c29b1 : (t315 != 0) = false := bne_eq_false_iff_eq.mpr c29
         clear c29
         replace H := Option.bind_eq_some_iff.mp H
         obtain ⟨t318, A300, H⟩ := H
         replace H : (if t318 = true then ((tattingref1_SamePairs.f kj5 t310 t303).bind fun t319 => (if t319 = true then ((tattingref1_SamePairs.f kj5 t314 t303).bind fun t320 => (tattinglaw23_CanonStays.j1 kj5 l2 t297 t300 (!t320))) else (tattinglaw23_CanonStays.j1 kj5 l2 t297 t300 true))) else (tattinglaw23_CanonStays.j1 kj5 l2 t297 t300 true)) = some r := H
         have A30 := Aside0.mk A300
         clear A300
         by_cases c31 : t318 = true
         ·subst c31
          have H1 : ((tattingref1_SamePairs.f kj5 t310 t303).bind fun t319 => (if t319 = true then ((tattingref1_SamePairs.f kj5 t314 t303).bind fun t320 => (tattinglaw23_CanonStays.j1 kj5 l2 t297 t300 (!t320))) else (tattinglaw23_CanonStays.j1 kj5 l2 t297 t300 true))) = some r := by rw [if_pos rfl] at H; exact H
          clear H
          have H := H1
          clear H1
          replace H := Option.bind_eq_some_iff.mp H
          obtain ⟨t319, A320, H⟩ := H
          replace H : (if t319 = true then ((tattingref1_SamePairs.f kj5 t314 t303).bind fun t320 => (tattinglaw23_CanonStays.j1 kj5 l2 t297 t300 (!t320))) else (tattinglaw23_CanonStays.j1 kj5 l2 t297 t300 true)) = some r := H
          have A32 := Aside0.mk A320
          clear A320
          by_cases c33 : t319 = true
          ·subst c33
           have H1 : ((tattingref1_SamePairs.f kj5 t314 t303).bind fun t320 => (tattinglaw23_CanonStays.j1 kj5 l2 t297 t300 (!t320))) = some r := by rw [if_pos rfl] at H; exact H
           clear H
           have H := H1
           clear H1
           replace H := Option.bind_eq_some_iff.mp H
           obtain ⟨t320, A340, H⟩ := H
           replace H : (tattinglaw23_CanonStays.j1 kj5 l2 t297 t300 (!t320)) = some r := H
           have A34 := Aside0.mk A340
           clear A340
           have H' := Aside0.mk H
           clear H
           obtain ⟨Ao35, co35, eo35⟩ := Kd.R_slice HO309.out
           subst eo35
           go_wp2_with (first | (go_at_call 12; (with_reducible refine (tattingref1_SamePairs.calls kj5 _ _ t306 _ _ t303 true _ ?side1 ?side2 ?side3 ?side4 A30.out).mono ?_); (case side1 => repeat (first | exact (Kd.R_reads' HO309.out).2.2 | (with_reducible refine Kd.C_alloc ?_ _) | (with_reducible refine Kd.C_drewN ?_ _) | (with_reducible refine Kd.C_drew ?_))); (case side2 => exact (Kd.R_reads' HO309.out).2.1); (case side3 => repeat (first | exact (Kd.R_reads' HO305.out).2.2 | (with_reducible refine Kd.C_alloc ?_ _) | (with_reducible refine Kd.C_drewN ?_ _) | (with_reducible refine Kd.C_drew ?_))); (case side4 => exact (Kd.R_reads' HO305.out).2.1); rintro e w' ⟨rfl, ⟨nd, rfl⟩⟩; obtain ⟨Ao36, co36, eo36⟩ := Kd.R_slice HO313.out; subst eo36) | (go_at_call 12; (with_reducible refine (tattingref1_SamePairs.calls kj5 _ _ t310 _ _ t303 true _ ?side1 ?side2 ?side3 ?side4 A32.out).mono ?_); (case side1 => repeat (first | exact (Kd.R_reads' HO313.out).2.2 | (with_reducible refine Kd.C_alloc ?_ _) | (with_reducible refine Kd.C_drewN ?_ _) | (with_reducible refine Kd.C_drew ?_))); (case side2 => exact (Kd.R_reads' HO313.out).2.1); (case side3 => repeat (first | exact (Kd.R_reads' HO305.out).2.2 | (with_reducible refine Kd.C_alloc ?_ _) | (with_reducible refine Kd.C_drewN ?_ _) | (with_reducible refine Kd.C_drew ?_))); (case side4 => exact (Kd.R_reads' HO305.out).2.1); rintro e w' ⟨rfl, ⟨nd, rfl⟩⟩; obtain ⟨Ao37, co37, eo37⟩ := Kd.R_slice HO317.out; subst eo37) | (go_at_call 12; (with_reducible refine (tattingref1_SamePairs.calls kj5 _ _ t314 _ _ t303 t320 _ ?side1 ?side2 ?side3 ?side4 A34.out).mono ?_); (case side1 => repeat (first | exact (Kd.R_reads' HO317.out).2.2 | (with_reducible refine Kd.C_alloc ?_ _) | (with_reducible refine Kd.C_drewN ?_ _) | (with_reducible refine Kd.C_drew ?_))); (case side2 => exact (Kd.R_reads' HO317.out).2.1); (case side3 => repeat (first | exact (Kd.R_reads' HO305.out).2.2 | (with_reducible refine Kd.C_alloc ?_ _) | (with_reducible refine Kd.C_drewN ?_ _) | (with_reducible refine Kd.C_drew ?_))); (case side4 => exact (Kd.R_reads' HO305.out).2.1); rintro e w' ⟨rfl, ⟨nd, rfl⟩⟩))
           go_meet
           case rel => exact ⟨_, (!t320), (by first | rfl | (simp; done) | (simp [*]; done)), H', ⟨by have := HJ5.out; first | omega | exact Nat.le_refl _⟩, ⟨by (with_reducible repeat (first | apply Kd.R_alloc | apply Kd.R_drewN | apply Kd.R_drew)); exact Kd.R_mono HO299.out (fun _ hk => hk.2)⟩, ⟨by (with_reducible repeat (first | apply Kd.R_alloc | apply Kd.R_drewN | apply Kd.R_drew)); exact Kd.R_mono HO302.out (fun _ hk => hk.2)⟩, ⟨by repeat (first | (with_reducible first | exact HB.out | apply below_alloc | apply pw_below_drewN | apply below_drew1) | exact HB.out)⟩⟩
          ·replace c33 := Bool.eq_false_iff.mpr c33
           subst c33
           have H1 : (tattinglaw23_CanonStays.j1 kj5 l2 t297 t300 true) = some r := by rw [if_neg (show ¬ (false = true) by decide)] at H; exact H
           clear H
           have H := H1
           clear H1
           have H' := Aside0.mk H
           clear H
           obtain ⟨Ao38, co38, eo38⟩ := Kd.R_slice HO309.out
           subst eo38
           go_wp2_with (first | (go_at_call 12; (with_reducible refine (tattingref1_SamePairs.calls kj5 _ _ t306 _ _ t303 true _ ?side1 ?side2 ?side3 ?side4 A30.out).mono ?_); (case side1 => repeat (first | exact (Kd.R_reads' HO309.out).2.2 | (with_reducible refine Kd.C_alloc ?_ _) | (with_reducible refine Kd.C_drewN ?_ _) | (with_reducible refine Kd.C_drew ?_))); (case side2 => exact (Kd.R_reads' HO309.out).2.1); (case side3 => repeat (first | exact (Kd.R_reads' HO305.out).2.2 | (with_reducible refine Kd.C_alloc ?_ _) | (with_reducible refine Kd.C_drewN ?_ _) | (with_reducible refine Kd.C_drew ?_))); (case side4 => exact (Kd.R_reads' HO305.out).2.1); rintro e w' ⟨rfl, ⟨nd, rfl⟩⟩; obtain ⟨Ao39, co39, eo39⟩ := Kd.R_slice HO313.out; subst eo39) | (go_at_call 12; (with_reducible refine (tattingref1_SamePairs.calls kj5 _ _ t310 _ _ t303 false _ ?side1 ?side2 ?side3 ?side4 A32.out).mono ?_); (case side1 => repeat (first | exact (Kd.R_reads' HO313.out).2.2 | (with_reducible refine Kd.C_alloc ?_ _) | (with_reducible refine Kd.C_drewN ?_ _) | (with_reducible refine Kd.C_drew ?_))); (case side2 => exact (Kd.R_reads' HO313.out).2.1); (case side3 => repeat (first | exact (Kd.R_reads' HO305.out).2.2 | (with_reducible refine Kd.C_alloc ?_ _) | (with_reducible refine Kd.C_drewN ?_ _) | (with_reducible refine Kd.C_drew ?_))); (case side4 => exact (Kd.R_reads' HO305.out).2.1); rintro e w' ⟨rfl, ⟨nd, rfl⟩⟩))
           go_meet
           case rel => exact ⟨_, (true), (by first | rfl | (simp; done) | (simp [*]; done)), H', ⟨by have := HJ5.out; first | omega | exact Nat.le_refl _⟩, ⟨by (with_reducible repeat (first | apply Kd.R_alloc | apply Kd.R_drewN | apply Kd.R_drew)); exact Kd.R_mono HO299.out (fun _ hk => hk.2)⟩, ⟨by (with_reducible repeat (first | apply Kd.R_alloc | apply Kd.R_drewN | apply Kd.R_drew)); exact Kd.R_mono HO302.out (fun _ hk => hk.2)⟩, ⟨by repeat (first | (with_reducible first | exact HB.out | apply below_alloc | apply pw_below_drewN | apply below_drew1) | exact HB.out)⟩⟩
         ·replace c31 := Bool.eq_false_iff.mpr c31
          subst c31
          have H1 : (tattinglaw23_CanonStays.j1 kj5 l2 t297 t300 true) = some r := by rw [if_neg (show ¬ (false = true) by decide)] at H; exact H
          clear H
          have H := H1
          clear H1
          have H' := Aside0.mk H
          clear H
          obtain ⟨Ao40, co40, eo40⟩ := Kd.R_slice HO309.out
          subst eo40
          go_wp2_with (first | (go_at_call 12; (with_reducible refine (tattingref1_SamePairs.calls kj5 _ _ t306 _ _ t303 false _ ?side1 ?side2 ?side3 ?side4 A30.out).mono ?_); (case side1 => repeat (first | exact (Kd.R_reads' HO309.out).2.2 | (with_reducible refine Kd.C_alloc ?_ _) | (with_reducible refine Kd.C_drewN ?_ _) | (with_reducible refine Kd.C_drew ?_))); (case side2 => exact (Kd.R_reads' HO309.out).2.1); (case side3 => repeat (first | exact (Kd.R_reads' HO305.out).2.2 | (with_reducible refine Kd.C_alloc ?_ _) | (with_reducible refine Kd.C_drewN ?_ _) | (with_reducible refine Kd.C_drew ?_))); (case side4 => exact (Kd.R_reads' HO305.out).2.1); rintro e w' ⟨rfl, ⟨nd, rfl⟩⟩))
          go_meet
          case rel => exact ⟨_, (true), (by first | rfl | (simp; done) | (simp [*]; done)), H', ⟨by have := HJ5.out; first | omega | exact Nat.le_refl _⟩, ⟨by (with_reducible repeat (first | apply Kd.R_alloc | apply Kd.R_drewN | apply Kd.R_drew)); exact Kd.R_mono HO299.out (fun _ hk => hk.2)⟩, ⟨by (with_reducible repeat (first | apply Kd.R_alloc | apply Kd.R_drewN | apply Kd.R_drew)); exact Kd.R_mono HO302.out (fun _ hk => hk.2)⟩, ⟨by repeat (first | (with_reducible first | exact HB.out | apply below_alloc | apply pw_below_drewN | apply below_drew1) | exact HB.out)⟩⟩
        ·rw [if_neg c29] at H
         have c29b0 : (t315 == 0) = false := beq_eq_false_iff_ne.mpr c29
         have c29b1 : (t315 != 0) = true := bne_iff_ne.mpr c29
         have H' := Aside0.mk H
         clear H
         go_wp2
         go_meet
         case rel => exact ⟨_, (true), (by first | rfl | (simp; done) | (simp [*]; done)), H', ⟨by have := HJ5.out; first | omega | exact Nat.le_refl _⟩, ⟨by (with_reducible repeat (first | apply Kd.R_alloc | apply Kd.R_drewN | apply Kd.R_drew)); exact Kd.R_mono HO299.out (fun _ hk => hk.2)⟩, ⟨by (with_reducible repeat (first | apply Kd.R_alloc | apply Kd.R_drewN | apply Kd.R_drew)); exact Kd.R_mono HO302.out (fun _ hk => hk.2)⟩, ⟨by repeat (first | (with_reducible first | exact HB.out | apply below_alloc | apply pw_below_drewN | apply below_drew1) | exact HB.out)⟩⟩
       ·rw [if_neg c28] at H
        have c28b0 : (t311 == 0) = false := beq_eq_false_iff_ne.mpr c28
        have c28b1 : (t311 != 0) = true := bne_iff_ne.mpr c28
        have H' := Aside0.mk H
        clear H
        go_wp2
        go_meet
        case rel => exact ⟨_, (true), (by first | rfl | (simp; done) | (simp [*]; done)), H', ⟨by have := HJ5.out; first | omega | exact Nat.le_refl _⟩, ⟨by (with_reducible repeat (first | apply Kd.R_alloc | apply Kd.R_drewN | apply Kd.R_drew)); exact Kd.R_mono HO299.out (fun _ hk => hk.2)⟩, ⟨by (with_reducible repeat (first | apply Kd.R_alloc | apply Kd.R_drewN | apply Kd.R_drew)); exact Kd.R_mono HO302.out (fun _ hk => hk.2)⟩, ⟨by repeat (first | (with_reducible first | exact HB.out | apply below_alloc | apply pw_below_drewN | apply below_drew1) | exact HB.out)⟩⟩
      ·rw [if_neg c27] at H
       have c27b0 : (t307 == 0) = false := beq_eq_false_iff_ne.mpr c27
       have c27b1 : (t307 != 0) = true := bne_iff_ne.mpr c27
       (first | rw [c27b0] | (simp only [i64_w, i32_w]; rw [c27b0]) | skip)
       have H' := Aside0.mk H
       clear H
       go_wp2
       go_meet
       case rel => exact ⟨_, (true), (by first | rfl | (simp; done) | (simp [*]; done)), H', ⟨by have := HJ5.out; first | omega | exact Nat.le_refl _⟩, ⟨by (with_reducible repeat (first | apply Kd.R_alloc | apply Kd.R_drewN | apply Kd.R_drew)); exact Kd.R_mono HO299.out (fun _ hk => hk.2)⟩, ⟨by (with_reducible repeat (first | apply Kd.R_alloc | apply Kd.R_drewN | apply Kd.R_drew)); exact Kd.R_mono HO302.out (fun _ hk => hk.2)⟩, ⟨by repeat (first | (with_reducible first | exact HB.out | apply below_alloc | apply pw_below_drewN | apply below_drew1) | exact HB.out)⟩⟩
     case rest =>
      clear HC17
      try clear c1
      try clear c2
      try clear p2
      try clear c3
      try clear c5
      try clear c7
      try clear c8
      try clear c8b0
      try clear c8b1
      try clear c9
      try clear c9b0
      try clear c9b1
      try clear c10
      try clear c11
      try clear c13
      try clear c17
      try clear c27
      try clear c27b0
      try clear c27b1
      try clear c28
      try clear c28b0
      try clear c28b1
      try clear c29
      try clear c29b0
      try clear c29b1
      try clear c31
      try clear c33
      try clear p2
      obtain ⟨kq, x92_16, rfl, HA, HJ16, HO_7, HO_8, HB⟩ := hcut
      cases kq with
      | zero => exact absurd HA.out (by simp [tattinglaw23_CanonStays.j1])
      | succ kj16 =>
       have H := HA.out
       clear HA
       simp only [tattinglaw23_CanonStays.j1] at H
       by_cases c41 : x92_16 = true
       ·subst c41
        have H1 : (some false) = some r := by rw [if_pos rfl] at H; exact H
        clear H
        have H := H1
        clear H1
        exact absurd (Option.some.inj H) (by rw [hr_]; decide)
       ·replace c41 := Bool.eq_false_iff.mpr c41
        subst c41
        have H1 : ((canon_Left.f kj16 t297 t300 l2).bind fun bt321 => ((canon_Top.f kj16 t297 t300 bt321.1).bind fun bt325 => ((tattingref7_Good.f kj16 t297 t300 l2).bind fun t329 => (if t329 = true then ((canon_Left.f kj16 t297 t300 bt321.1).bind fun bt330 => (if bt321.2 = 0 then (if bt325.2 = 0 then ((tattingref1_SamePairs.f kj16 bt330.1 bt321.1).bind fun t334 => (if t334 = true then ((tattingref7_Good.f kj16 t297 t300 bt321.1).bind fun t335 => (if t335 = true then ((tattingref7_Good.f kj16 t297 t300 bt325.1).bind fun t336 => (if t336 = true then (if (bt321.1.length : Int) = (l2.length : Int) then (if (bt325.1.length : Int) = (l2.length : Int) then ((tattingref7_Less.f kj16 l2 bt321.1).bind fun t337 => (if t337 = true then (some false) else ((tattingref7_Less.f kj16 bt321.1 bt325.1).bind fun t338 => (some (!t338))))) else (some false)) else (some false)) else (some false))) else (some false))) else (some false))) else (some false)) else (some false))) else (if bt321.2 = 1 then (some ((bt321.1.length : Int) == 0)) else (some false)))))) = some r := by rw [if_neg (show ¬ (false = true) by decide)] at H; exact H
        clear H
        have H := H1
        clear H1
        replace H := Option.bind_eq_some_iff.mp H
        obtain ⟨⟨t321, t322⟩, A420, H⟩ := H
        replace H : ((canon_Top.f kj16 t297 t300 t321).bind fun bt325 => ((tattingref7_Good.f kj16 t297 t300 l2).bind fun t329 => (if t329 = true then ((canon_Left.f kj16 t297 t300 t321).bind fun bt330 => (if t322 = 0 then (if bt325.2 = 0 then ((tattingref1_SamePairs.f kj16 bt330.1 t321).bind fun t334 => (if t334 = true then ((tattingref7_Good.f kj16 t297 t300 t321).bind fun t335 => (if t335 = true then ((tattingref7_Good.f kj16 t297 t300 bt325.1).bind fun t336 => (if t336 = true then (if (t321.length : Int) = (l2.length : Int) then (if (bt325.1.length : Int) = (l2.length : Int) then ((tattingref7_Less.f kj16 l2 t321).bind fun t337 => (if t337 = true then (some false) else ((tattingref7_Less.f kj16 t321 bt325.1).bind fun t338 => (some (!t338))))) else (some false)) else (some false)) else (some false))) else (some false))) else (some false))) else (some false)) else (some false))) else (if t322 = 1 then (some ((t321.length : Int) == 0)) else (some false))))) = some r := H
        have A42 := Aside0.mk A420
        clear A420
        replace H := Option.bind_eq_some_iff.mp H
        obtain ⟨⟨t325, t326⟩, A430, H⟩ := H
        replace H : ((tattingref7_Good.f kj16 t297 t300 l2).bind fun t329 => (if t329 = true then ((canon_Left.f kj16 t297 t300 t321).bind fun bt330 => (if t322 = 0 then (if t326 = 0 then ((tattingref1_SamePairs.f kj16 bt330.1 t321).bind fun t334 => (if t334 = true then ((tattingref7_Good.f kj16 t297 t300 t321).bind fun t335 => (if t335 = true then ((tattingref7_Good.f kj16 t297 t300 t325).bind fun t336 => (if t336 = true then (if (t321.length : Int) = (l2.length : Int) then (if (t325.length : Int) = (l2.length : Int) then ((tattingref7_Less.f kj16 l2 t321).bind fun t337 => (if t337 = true then (some false) else ((tattingref7_Less.f kj16 t321 t325).bind fun t338 => (some (!t338))))) else (some false)) else (some false)) else (some false))) else (some false))) else (some false))) else (some false)) else (some false))) else (if t322 = 1 then (some ((t321.length : Int) == 0)) else (some false)))) = some r := H
        have A43 := Aside0.mk A430
        clear A430
        replace H := Option.bind_eq_some_iff.mp H
        obtain ⟨t329, A440, H⟩ := H
        replace H : (if t329 = true then ((canon_Left.f kj16 t297 t300 t321).bind fun bt330 => (if t322 = 0 then (if t326 = 0 then ((tattingref1_SamePairs.f kj16 bt330.1 t321).bind fun t334 => (if t334 = true then ((tattingref7_Good.f kj16 t297 t300 t321).bind fun t335 => (if t335 = true then ((tattingref7_Good.f kj16 t297 t300 t325).bind fun t336 => (if t336 = true then (if (t321.length : Int) = (l2.length : Int) then (if (t325.length : Int) = (l2.length : Int) then ((tattingref7_Less.f kj16 l2 t321).bind fun t337 => (if t337 = true then (some false) else ((tattingref7_Less.f kj16 t321 t325).bind fun t338 => (some (!t338))))) else (some false)) else (some false)) else (some false))) else (some false))) else (some false))) else (some false)) else (some false))) else (if t322 = 1 then (some ((t321.length : Int) == 0)) else (some false))) = some r := H
        have A44 := Aside0.mk A440
        clear A440
        by_cases c45 : t329 = true
        ·subst c45
         have H1 : ((canon_Left.f kj16 t297 t300 t321).bind fun bt330 => (if t322 = 0 then (if t326 = 0 then ((tattingref1_SamePairs.f kj16 bt330.1 t321).bind fun t334 => (if t334 = true then ((tattingref7_Good.f kj16 t297 t300 t321).bind fun t335 => (if t335 = true then ((tattingref7_Good.f kj16 t297 t300 t325).bind fun t336 => (if t336 = true then (if (t321.length : Int) = (l2.length : Int) then (if (t325.length : Int) = (l2.length : Int) then ((tattingref7_Less.f kj16 l2 t321).bind fun t337 => (if t337 = true then (some false) else ((tattingref7_Less.f kj16 t321 t325).bind fun t338 => (some (!t338))))) else (some false)) else (some false)) else (some false))) else (some false))) else (some false))) else (some false)) else (some false))) = some r := by rw [if_pos rfl] at H; exact H
         clear H
         have H := H1
         clear H1
         replace H := Option.bind_eq_some_iff.mp H
         obtain ⟨⟨t330, t331⟩, A460, H⟩ := H
         replace H : (if t322 = 0 then (if t326 = 0 then ((tattingref1_SamePairs.f kj16 t330 t321).bind fun t334 => (if t334 = true then ((tattingref7_Good.f kj16 t297 t300 t321).bind fun t335 => (if t335 = true then ((tattingref7_Good.f kj16 t297 t300 t325).bind fun t336 => (if t336 = true then (if (t321.length : Int) = (l2.length : Int) then (if (t325.length : Int) = (l2.length : Int) then ((tattingref7_Less.f kj16 l2 t321).bind fun t337 => (if t337 = true then (some false) else ((tattingref7_Less.f kj16 t321 t325).bind fun t338 => (some (!t338))))) else (some false)) else (some false)) else (some false))) else (some false))) else (some false))) else (some false)) else (some false)) = some r := H
         have A46 := Aside0.mk A460
         clear A460
         by_cases c47 : t322 = 0
         ·rw [if_pos c47] at H
          have c47b0 : (t322 == 0) = true := beq_iff_eq.mpr c47
          have c47b1 : (t322 != 0) = false := bne_eq_false_iff_eq.mpr c47
          clear c47
          by_cases c48 : t326 = 0
          ·rw [if_pos c48] at H
           have c48b0 : (t326 == 0) = true := beq_iff_eq.mpr c48
           have c48b1 : (t326 != 0) = false := bne_eq_false_iff_eq.mpr c48
           clear c48
           replace H := Option.bind_eq_some_iff.mp H
           obtain ⟨t334, A490, H⟩ := H
           replace H : (if t334 = true then ((tattingref7_Good.f kj16 t297 t300 t321).bind fun t335 => (if t335 = true then ((tattingref7_Good.f kj16 t297 t300 t325).bind fun t336 => (if t336 = true then (if (t321.length : Int) = (l2.length : Int) then (if (t325.length : Int) = (l2.length : Int) then ((tattingref7_Less.f kj16 l2 t321).bind fun t337 => (if t337 = true then (some false) else ((tattingref7_Less.f kj16 t321 t325).bind fun t338 => (some (!t338))))) else (some false)) else (some false)) else (some false))) else (some false))) else (some false)) = some r := H
           have A49 := Aside0.mk A490
           clear A490
           by_cases c50 : t334 = true
           ·subst c50
            have H1 : ((tattingref7_Good.f kj16 t297 t300 t321).bind fun t335 => (if t335 = true then ((tattingref7_Good.f kj16 t297 t300 t325).bind fun t336 => (if t336 = true then (if (t321.length : Int) = (l2.length : Int) then (if (t325.length : Int) = (l2.length : Int) then ((tattingref7_Less.f kj16 l2 t321).bind fun t337 => (if t337 = true then (some false) else ((tattingref7_Less.f kj16 t321 t325).bind fun t338 => (some (!t338))))) else (some false)) else (some false)) else (some false))) else (some false))) = some r := by rw [if_pos rfl] at H; exact H
            clear H
            have H := H1
            clear H1
            replace H := Option.bind_eq_some_iff.mp H
            obtain ⟨t335, A510, H⟩ := H
            replace H : (if t335 = true then ((tattingref7_Good.f kj16 t297 t300 t325).bind fun t336 => (if t336 = true then (if (t321.length : Int) = (l2.length : Int) then (if (t325.length : Int) = (l2.length : Int) then ((tattingref7_Less.f kj16 l2 t321).bind fun t337 => (if t337 = true then (some false) else ((tattingref7_Less.f kj16 t321 t325).bind fun t338 => (some (!t338))))) else (some false)) else (some false)) else (some false))) else (some false)) = some r := H
            have A51 := Aside0.mk A510
            clear A510
            by_cases c52 : t335 = true
            ·subst c52
             have H1 : ((tattingref7_Good.f kj16 t297 t300 t325).bind fun t336 => (if t336 = true then (if (t321.length : Int) = (l2.length : Int) then (if (t325.length : Int) = (l2.length : Int) then ((tattingref7_Less.f kj16 l2 t321).bind fun t337 => (if t337 = true then (some false) else ((tattingref7_Less.f kj16 t321 t325).bind fun t338 => (some (!t338))))) else (some false)) else (some false)) else (some false))) = some r := by rw [if_pos rfl] at H; exact H
             clear H
             have H := H1
             clear H1
             replace H := Option.bind_eq_some_iff.mp H
             obtain ⟨t336, A530, H⟩ := H
             replace H : (if t336 = true then (if (t321.length : Int) = (l2.length : Int) then (if (t325.length : Int) = (l2.length : Int) then ((tattingref7_Less.f kj16 l2 t321).bind fun t337 => (if t337 = true then (some false) else ((tattingref7_Less.f kj16 t321 t325).bind fun t338 => (some (!t338))))) else (some false)) else (some false)) else (some false)) = some r := H
             have A53 := Aside0.mk A530
             clear A530
             by_cases c54 : t336 = true
             ·subst c54
              have H1 : (if (t321.length : Int) = (l2.length : Int) then (if (t325.length : Int) = (l2.length : Int) then ((tattingref7_Less.f kj16 l2 t321).bind fun t337 => (if t337 = true then (some false) else ((tattingref7_Less.f kj16 t321 t325).bind fun t338 => (some (!t338))))) else (some false)) else (some false)) = some r := by rw [if_pos rfl] at H; exact H
              clear H
              have H := H1
              clear H1
              by_cases c55 : (t321.length : Int) = (l2.length : Int)
              ·rw [if_pos c55] at H
               have c55b0 : ((t321.length : Int) == (l2.length : Int)) = true := beq_iff_eq.mpr c55
               have c55b1 : ((t321.length : Int) != (l2.length : Int)) = false := bne_eq_false_iff_eq.mpr c55
               have c55b2 : (t321.length == l2.length) = true := by first | simpa using c55 | (simp at c55 ⊢; omega)
               clear c55
               by_cases c56 : (t325.length : Int) = (l2.length : Int)
               ·rw [if_pos c56] at H
                have c56b0 : ((t325.length : Int) == (l2.length : Int)) = true := beq_iff_eq.mpr c56
                have c56b1 : ((t325.length : Int) != (l2.length : Int)) = false := bne_eq_false_iff_eq.mpr c56
                have c56b2 : (t325.length == l2.length) = true := by first | simpa using c56 | (simp at c56 ⊢; omega)
                clear c56
                replace H := Option.bind_eq_some_iff.mp H
                obtain ⟨t337, A570, H⟩ := H
                replace H : (if t337 = true then (some false) else ((tattingref7_Less.f kj16 t321 t325).bind fun t338 => (some (!t338)))) = some r := H
                have A57 := Aside0.mk A570
                clear A570
                by_cases c58 : t337 = true
                ·subst c58
                 have H1 : (some false) = some r := by rw [if_pos rfl] at H; exact H
                 clear H
                 have H := H1
                 clear H1
                 exact absurd (Option.some.inj H) (by rw [hr_]; decide)
                ·replace c58 := Bool.eq_false_iff.mpr c58
                 subst c58
                 have H1 : ((tattingref7_Less.f kj16 t321 t325).bind fun t338 => (some (!t338))) = some r := by rw [if_neg (show ¬ (false = true) by decide)] at H; exact H
                 clear H
                 have H := H1
                 clear H1
                 replace H := Option.bind_eq_some_iff.mp H
                 obtain ⟨t338, A590, H⟩ := H
                 replace H : (some (!t338)) = some r := H
                 have A59 := Aside0.mk A590
                 clear A590
                 obtain rfl := Option.some.inj H
                 go_wp2_with (first | ((first | (with_reducible refine gate_callee (f := 9) rfl ?_); refine goesL_ (some 97) rfl rfl Try.func9 (by kernel_rfl) rfl #[.slice Ao20 t297.length co20, .slice Ao21 t300.length co21, .slice A2 l2.length c2] rfl (by (try simp only [List.map_toArray, List.map_cons, List.map_nil]); first | done | rfl | (simp only [List.length_drop, List.length_take]; rfl)) ?_ | go_at_call 9); (with_reducible refine (canon_Left.calls kj16 _ _ t297 _ _ t300 _ _ l2 t321 t322 _ ?side1 ?side2 ?side3 ?side4 ?side5 ?side6 A42.out).mono ?_); (case side1 => repeat (first | exact (Kd.R_reads' HO_7.out).2.2 | (with_reducible refine Kd.C_alloc ?_ _) | (with_reducible refine Kd.C_drewN ?_ _) | (with_reducible refine Kd.C_drew ?_))); (case side2 => exact (Kd.R_reads' HO_7.out).2.1); (case side3 => repeat (first | exact (Kd.R_reads' HO_8.out).2.2 | (with_reducible refine Kd.C_alloc ?_ _) | (with_reducible refine Kd.C_drewN ?_ _) | (with_reducible refine Kd.C_drew ?_))); (case side4 => exact (Kd.R_reads' HO_8.out).2.1); (case side5 => repeat (first | exact (Kd.C_below HR2.out HB.out) | (with_reducible refine Kd.C_alloc ?_ _) | (with_reducible refine Kd.C_drewN ?_ _) | (with_reducible refine Kd.C_drew ?_))); (case side6 => exact HC2.out); rintro e w60 ⟨v323, rfl, ho0, hb⟩; (try refine ⟨_, rfl, ?_⟩); have n0_ := Aside0.mk (Kd.R_below (by (with_reducible repeat (first | apply Kd.R_alloc | apply Kd.R_drewN | apply Kd.R_drew)); exact HO_7.out) hb); have n1_ := Aside0.mk (Kd.R_below (by (with_reducible repeat (first | apply Kd.R_alloc | apply Kd.R_drewN | apply Kd.R_drew)); exact HO_8.out) hb); have n2_ := Aside0.mk (Kd.R_lower ho0 (below_size (by repeat (first | (with_reducible first | exact HB.out | apply below_alloc | apply pw_below_drewN | apply below_drew1) | exact HB.out)))); have n3_ := Aside0.mk (below_step (by repeat (first | (with_reducible first | exact HB.out | apply below_alloc | apply pw_below_drewN | apply below_drew1) | exact HB.out)) hb); clear HO_7; clear HO_8; clear HB; have HO_7 := n0_; have HO_8 := n1_; have HO324 := n2_; have HB := n3_; clear n0_ n1_ n2_ n3_; (try clear hb); (try clear hb2); (try clear hk); (try clear hi); (try clear ho0); obtain ⟨Ao61, co61, eo61⟩ := Kd.R_slice HO324.out; subst eo61) | ((first | (with_reducible refine gate_callee (f := 10) rfl ?_); refine goesL_ (some 104) rfl rfl Try.func10 (by kernel_rfl) rfl #[.slice Ao20 t297.length co20, .slice Ao21 t300.length co21, .slice Ao61 t321.length co61] rfl (by (try simp only [List.map_toArray, List.map_cons, List.map_nil]); first | done | rfl | (simp only [List.length_drop, List.length_take]; rfl)) ?_ | go_at_call 10); (with_reducible refine (canon_Top.calls kj16 _ _ t297 _ _ t300 _ _ t321 t325 t326 _ ?side1 ?side2 ?side3 ?side4 ?side5 ?side6 A43.out).mono ?_); (case side1 => repeat (first | exact (Kd.R_reads' HO_7.out).2.2 | (with_reducible refine Kd.C_alloc ?_ _) | (with_reducible refine Kd.C_drewN ?_ _) | (with_reducible refine Kd.C_drew ?_))); (case side2 => exact (Kd.R_reads' HO_7.out).2.1); (case side3 => repeat (first | exact (Kd.R_reads' HO_8.out).2.2 | (with_reducible refine Kd.C_alloc ?_ _) | (with_reducible refine Kd.C_drewN ?_ _) | (with_reducible refine Kd.C_drew ?_))); (case side4 => exact (Kd.R_reads' HO_8.out).2.1); (case side5 => repeat (first | exact (Kd.R_reads' HO324.out).2.2 | (with_reducible refine Kd.C_alloc ?_ _) | (with_reducible refine Kd.C_drewN ?_ _) | (with_reducible refine Kd.C_drew ?_))); (case side6 => exact (Kd.R_reads' HO324.out).2.1); rintro e w62 ⟨v327, rfl, ho0, hb⟩; (try refine ⟨_, rfl, ?_⟩); have n0_ := Aside0.mk (Kd.R_below (by (with_reducible repeat (first | apply Kd.R_alloc | apply Kd.R_drewN | apply Kd.R_drew)); exact HO_7.out) hb); have n1_ := Aside0.mk (Kd.R_below (by (with_reducible repeat (first | apply Kd.R_alloc | apply Kd.R_drewN | apply Kd.R_drew)); exact HO_8.out) hb); have n2_ := Aside0.mk (Kd.R_elder' (by (with_reducible repeat (first | apply Kd.R_alloc | apply Kd.R_drewN | apply Kd.R_drew)); exact HO324.out) (Kd.R_base ho0) hb); have n3_ := Aside0.mk (Kd.R_lower (Kd.R_new' ho0 (Kd.R_lt (by (with_reducible repeat (first | apply Kd.R_alloc | apply Kd.R_drewN | apply Kd.R_drew)); exact HO324.out))) (below_size (by repeat (first | (with_reducible first | exact HB.out | apply below_alloc | apply pw_below_drewN | apply below_drew1) | exact HB.out)))); have n4_ := Aside0.mk (below_step (by repeat (first | (with_reducible first | exact HB.out | apply below_alloc | apply pw_below_drewN | apply below_drew1) | exact HB.out)) hb); clear HO_7; clear HO_8; clear HO324; clear HB; have HO_7 := n0_; have HO_8 := n1_; have HO324 := n2_; have HO328 := n3_; have HB := n4_; clear n0_ n1_ n2_ n3_ n4_; (try clear hb); (try clear hb2); (try clear hk); (try clear hi); (try clear ho0)) | ((first | (with_reducible refine gate_callee (f := 21) rfl ?_); refine goesL_ (some 110) rfl rfl Try.func21 (by kernel_rfl) rfl #[.slice Ao20 t297.length co20, .slice Ao21 t300.length co21, .slice A2 l2.length c2] rfl (by (try simp only [List.map_toArray, List.map_cons, List.map_nil]); first | done | rfl | (simp only [List.length_drop, List.length_take]; rfl)) ?_ | go_at_call 21); (with_reducible refine (tattingref7_Good.calls kj16 _ _ t297 _ _ t300 _ _ l2 true _ ?side1 ?side2 ?side3 ?side4 ?side5 ?side6 A44.out).mono ?_); (case side1 => repeat (first | exact (Kd.R_reads' HO_7.out).2.2 | (with_reducible refine Kd.C_alloc ?_ _) | (with_reducible refine Kd.C_drewN ?_ _) | (with_reducible refine Kd.C_drew ?_))); (case side2 => exact (Kd.R_reads' HO_7.out).2.1); (case side3 => repeat (first | exact (Kd.R_reads' HO_8.out).2.2 | (with_reducible refine Kd.C_alloc ?_ _) | (with_reducible refine Kd.C_drewN ?_ _) | (with_reducible refine Kd.C_drew ?_))); (case side4 => exact (Kd.R_reads' HO_8.out).2.1); (case side5 => repeat (first | exact (Kd.C_below HR2.out HB.out) | (with_reducible refine Kd.C_alloc ?_ _) | (with_reducible refine Kd.C_drewN ?_ _) | (with_reducible refine Kd.C_drew ?_))); (case side6 => exact HC2.out); rintro e w63 ⟨rfl, hb⟩; (try refine ⟨_, rfl, ?_⟩); have n0_ := Aside0.mk (Kd.R_below (by (with_reducible repeat (first | apply Kd.R_alloc | apply Kd.R_drewN | apply Kd.R_drew)); exact HO_7.out) hb); have n1_ := Aside0.mk (Kd.R_below (by (with_reducible repeat (first | apply Kd.R_alloc | apply Kd.R_drewN | apply Kd.R_drew)); exact HO_8.out) hb); have n2_ := Aside0.mk (Kd.R_below (by (with_reducible repeat (first | apply Kd.R_alloc | apply Kd.R_drewN | apply Kd.R_drew)); exact HO324.out) hb); have n3_ := Aside0.mk (Kd.R_below (by (with_reducible repeat (first | apply Kd.R_alloc | apply Kd.R_drewN | apply Kd.R_drew)); exact HO328.out) hb); have n4_ := Aside0.mk (below_step (by repeat (first | (with_reducible first | exact HB.out | apply below_alloc | apply pw_below_drewN | apply below_drew1) | exact HB.out)) hb); clear HO_7; clear HO_8; clear HO324; clear HO328; clear HB; have HO_7 := n0_; have HO_8 := n1_; have HO324 := n2_; have HO328 := n3_; have HB := n4_; clear n0_ n1_ n2_ n3_ n4_; (try clear hb); (try clear hb2); (try clear hk); (try clear hi)) | ((first | (with_reducible refine gate_callee (f := 9) rfl ?_); refine goesL_ (some 123) rfl rfl Try.func9 (by kernel_rfl) rfl #[.slice Ao20 t297.length co20, .slice Ao21 t300.length co21, .slice Ao61 t321.length co61] rfl (by (try simp only [List.map_toArray, List.map_cons, List.map_nil]); first | done | rfl | (simp only [List.length_drop, List.length_take]; rfl)) ?_ | go_at_call 9); (with_reducible refine (canon_Left.calls kj16 _ _ t297 _ _ t300 _ _ t321 t330 t331 _ ?side1 ?side2 ?side3 ?side4 ?side5 ?side6 A46.out).mono ?_); (case side1 => repeat (first | exact (Kd.R_reads' HO_7.out).2.2 | (with_reducible refine Kd.C_alloc ?_ _) | (with_reducible refine Kd.C_drewN ?_ _) | (with_reducible refine Kd.C_drew ?_))); (case side2 => exact (Kd.R_reads' HO_7.out).2.1); (case side3 => repeat (first | exact (Kd.R_reads' HO_8.out).2.2 | (with_reducible refine Kd.C_alloc ?_ _) | (with_reducible refine Kd.C_drewN ?_ _) | (with_reducible refine Kd.C_drew ?_))); (case side4 => exact (Kd.R_reads' HO_8.out).2.1); (case side5 => repeat (first | exact (Kd.R_reads' HO324.out).2.2 | (with_reducible refine Kd.C_alloc ?_ _) | (with_reducible refine Kd.C_drewN ?_ _) | (with_reducible refine Kd.C_drew ?_))); (case side6 => exact (Kd.R_reads' HO324.out).2.1); rintro e w64 ⟨v332, rfl, ho0, hb⟩; (try refine ⟨_, rfl, ?_⟩); have n0_ := Aside0.mk (Kd.R_below (by (with_reducible repeat (first | apply Kd.R_alloc | apply Kd.R_drewN | apply Kd.R_drew)); exact HO_7.out) hb); have n1_ := Aside0.mk (Kd.R_below (by (with_reducible repeat (first | apply Kd.R_alloc | apply Kd.R_drewN | apply Kd.R_drew)); exact HO_8.out) hb); have n2_ := Aside0.mk (Kd.R_elder' (by (with_reducible repeat (first | apply Kd.R_alloc | apply Kd.R_drewN | apply Kd.R_drew)); exact HO324.out) (Kd.R_base ho0) hb); have n3_ := Aside0.mk (Kd.R_elder' (by (with_reducible repeat (first | apply Kd.R_alloc | apply Kd.R_drewN | apply Kd.R_drew)); exact HO328.out) (Kd.R_base ho0) hb); have n4_ := Aside0.mk (Kd.R_lower (Kd.R_new' (Kd.R_new' ho0 (Kd.R_lt (by (with_reducible repeat (first | apply Kd.R_alloc | apply Kd.R_drewN | apply Kd.R_drew)); exact HO324.out))) (Kd.R_lt (by (with_reducible repeat (first | apply Kd.R_alloc | apply Kd.R_drewN | apply Kd.R_drew)); exact HO328.out))) (below_size (by repeat (first | (with_reducible first | exact HB.out | apply below_alloc | apply pw_below_drewN | apply below_drew1) | exact HB.out)))); have n5_ := Aside0.mk (below_step (by repeat (first | (with_reducible first | exact HB.out | apply below_alloc | apply pw_below_drewN | apply below_drew1) | exact HB.out)) hb); clear HO_7; clear HO_8; clear HO324; clear HO328; clear HB; have HO_7 := n0_; have HO_8 := n1_; have HO324 := n2_; have HO328 := n3_; have HO333 := n4_; have HB := n5_; clear n0_ n1_ n2_ n3_ n4_ n5_; (try clear hb); (try clear hb2); (try clear hk); (try clear hi); (try clear ho0); obtain ⟨Ao65, co65, eo65⟩ := Kd.R_slice HO333.out; subst eo65) | (go_at_call 12; (with_reducible refine (tattingref1_SamePairs.calls kj16 _ _ t330 _ _ t321 true _ ?side1 ?side2 ?side3 ?side4 A49.out).mono ?_); (case side1 => repeat (first | exact (Kd.R_reads' HO333.out).2.2 | (with_reducible refine Kd.C_alloc ?_ _) | (with_reducible refine Kd.C_drewN ?_ _) | (with_reducible refine Kd.C_drew ?_))); (case side2 => exact (Kd.R_reads' HO333.out).2.1); (case side3 => repeat (first | exact (Kd.R_reads' HO324.out).2.2 | (with_reducible refine Kd.C_alloc ?_ _) | (with_reducible refine Kd.C_drewN ?_ _) | (with_reducible refine Kd.C_drew ?_))); (case side4 => exact (Kd.R_reads' HO324.out).2.1); rintro e w' ⟨rfl, ⟨nd, rfl⟩⟩) | (go_at_call 21; (with_reducible refine (tattingref7_Good.calls kj16 _ _ t297 _ _ t300 _ _ t321 true _ ?side1 ?side2 ?side3 ?side4 ?side5 ?side6 A51.out).mono ?_); (case side1 => repeat (first | exact (Kd.R_reads' HO_7.out).2.2 | (with_reducible refine Kd.C_alloc ?_ _) | (with_reducible refine Kd.C_drewN ?_ _) | (with_reducible refine Kd.C_drew ?_))); (case side2 => exact (Kd.R_reads' HO_7.out).2.1); (case side3 => repeat (first | exact (Kd.R_reads' HO_8.out).2.2 | (with_reducible refine Kd.C_alloc ?_ _) | (with_reducible refine Kd.C_drewN ?_ _) | (with_reducible refine Kd.C_drew ?_))); (case side4 => exact (Kd.R_reads' HO_8.out).2.1); (case side5 => repeat (first | exact (Kd.R_reads' HO324.out).2.2 | (with_reducible refine Kd.C_alloc ?_ _) | (with_reducible refine Kd.C_drewN ?_ _) | (with_reducible refine Kd.C_drew ?_))); (case side6 => exact (Kd.R_reads' HO324.out).2.1); rintro e w66 ⟨rfl, hb⟩; have n0_ := Aside0.mk (Kd.R_below (by (with_reducible repeat (first | apply Kd.R_alloc | apply Kd.R_drewN | apply Kd.R_drew)); exact HO_7.out) hb); have n1_ := Aside0.mk (Kd.R_below (by (with_reducible repeat (first | apply Kd.R_alloc | apply Kd.R_drewN | apply Kd.R_drew)); exact HO_8.out) hb); have n2_ := Aside0.mk (Kd.R_below (by (with_reducible repeat (first | apply Kd.R_alloc | apply Kd.R_drewN | apply Kd.R_drew)); exact HO324.out) hb); have n3_ := Aside0.mk (Kd.R_below (by (with_reducible repeat (first | apply Kd.R_alloc | apply Kd.R_drewN | apply Kd.R_drew)); exact HO328.out) hb); have n4_ := Aside0.mk (Kd.R_below (by (with_reducible repeat (first | apply Kd.R_alloc | apply Kd.R_drewN | apply Kd.R_drew)); exact HO333.out) hb); have n5_ := Aside0.mk (below_step (by repeat (first | (with_reducible first | exact HB.out | apply below_alloc | apply pw_below_drewN | apply below_drew1) | exact HB.out)) hb); clear HO_7; clear HO_8; clear HO324; clear HO328; clear HO333; clear HB; have HO_7 := n0_; have HO_8 := n1_; have HO324 := n2_; have HO328 := n3_; have HO333 := n4_; have HB := n5_; clear n0_ n1_ n2_ n3_ n4_ n5_; (try clear hb); (try clear hb2); (try clear hk); (try clear hi); obtain ⟨Ao67, co67, eo67⟩ := Kd.R_slice HO328.out; subst eo67) | (go_at_call 21; (with_reducible refine (tattingref7_Good.calls kj16 _ _ t297 _ _ t300 _ _ t325 true _ ?side1 ?side2 ?side3 ?side4 ?side5 ?side6 A53.out).mono ?_); (case side1 => repeat (first | exact (Kd.R_reads' HO_7.out).2.2 | (with_reducible refine Kd.C_alloc ?_ _) | (with_reducible refine Kd.C_drewN ?_ _) | (with_reducible refine Kd.C_drew ?_))); (case side2 => exact (Kd.R_reads' HO_7.out).2.1); (case side3 => repeat (first | exact (Kd.R_reads' HO_8.out).2.2 | (with_reducible refine Kd.C_alloc ?_ _) | (with_reducible refine Kd.C_drewN ?_ _) | (with_reducible refine Kd.C_drew ?_))); (case side4 => exact (Kd.R_reads' HO_8.out).2.1); (case side5 => repeat (first | exact (Kd.R_reads' HO328.out).2.2 | (with_reducible refine Kd.C_alloc ?_ _) | (with_reducible refine Kd.C_drewN ?_ _) | (with_reducible refine Kd.C_drew ?_))); (case side6 => exact (Kd.R_reads' HO328.out).2.1); rintro e w68 ⟨rfl, hb⟩; have n0_ := Aside0.mk (Kd.R_below (by (with_reducible repeat (first | apply Kd.R_alloc | apply Kd.R_drewN | apply Kd.R_drew)); exact HO_7.out) hb); have n1_ := Aside0.mk (Kd.R_below (by (with_reducible repeat (first | apply Kd.R_alloc | apply Kd.R_drewN | apply Kd.R_drew)); exact HO_8.out) hb); have n2_ := Aside0.mk (Kd.R_below (by (with_reducible repeat (first | apply Kd.R_alloc | apply Kd.R_drewN | apply Kd.R_drew)); exact HO324.out) hb); have n3_ := Aside0.mk (Kd.R_below (by (with_reducible repeat (first | apply Kd.R_alloc | apply Kd.R_drewN | apply Kd.R_drew)); exact HO328.out) hb); have n4_ := Aside0.mk (Kd.R_below (by (with_reducible repeat (first | apply Kd.R_alloc | apply Kd.R_drewN | apply Kd.R_drew)); exact HO333.out) hb); have n5_ := Aside0.mk (below_step (by repeat (first | (with_reducible first | exact HB.out | apply below_alloc | apply pw_below_drewN | apply below_drew1) | exact HB.out)) hb); clear HO_7; clear HO_8; clear HO324; clear HO328; clear HO333; clear HB; have HO_7 := n0_; have HO_8 := n1_; have HO324 := n2_; have HO328 := n3_; have HO333 := n4_; have HB := n5_; clear n0_ n1_ n2_ n3_ n4_ n5_; (try clear hb); (try clear hb2); (try clear hk); (try clear hi)) | (go_at_call 22; (with_reducible refine (tattingref7_Less.calls kj16 _ _ l2 _ _ t321 false _ ?side1 ?side2 ?side3 ?side4 A57.out).mono ?_); (case side1 => repeat (first | exact (Kd.C_below HR2.out HB.out) | (with_reducible refine Kd.C_alloc ?_ _) | (with_reducible refine Kd.C_drewN ?_ _) | (with_reducible refine Kd.C_drew ?_))); (case side2 => exact HC2.out); (case side3 => repeat (first | exact (Kd.R_reads' HO324.out).2.2 | (with_reducible refine Kd.C_alloc ?_ _) | (with_reducible refine Kd.C_drewN ?_ _) | (with_reducible refine Kd.C_drew ?_))); (case side4 => exact (Kd.R_reads' HO324.out).2.1); rintro e w' ⟨rfl, ⟨nd, rfl⟩⟩) | (go_at_call 22; (with_reducible refine (tattingref7_Less.calls kj16 _ _ t321 _ _ t325 t338 _ ?side1 ?side2 ?side3 ?side4 A59.out).mono ?_); (case side1 => repeat (first | exact (Kd.R_reads' HO324.out).2.2 | (with_reducible refine Kd.C_alloc ?_ _) | (with_reducible refine Kd.C_drewN ?_ _) | (with_reducible refine Kd.C_drew ?_))); (case side2 => exact (Kd.R_reads' HO324.out).2.1); (case side3 => repeat (first | exact (Kd.R_reads' HO328.out).2.2 | (with_reducible refine Kd.C_alloc ?_ _) | (with_reducible refine Kd.C_drewN ?_ _) | (with_reducible refine Kd.C_drew ?_))); (case side4 => exact (Kd.R_reads' HO328.out).2.1); rintro e w' ⟨rfl, ⟨nd, rfl⟩⟩))
                 go_ret
                 exact ⟨by first | rfl | (simp [errW_none, errW_some] <;> rfl) | (simp [*, errW_none, errW_some] <;> rfl), by repeat (first | (with_reducible first | exact HB.out | apply below_alloc | apply pw_below_drewN | apply below_drew1) | exact HB.out)⟩
               ·rw [if_neg c56] at H
                have c56b0 : ((t325.length : Int) == (l2.length : Int)) = false := beq_eq_false_iff_ne.mpr c56
                have c56b1 : ((t325.length : Int) != (l2.length : Int)) = true := bne_iff_ne.mpr c56
                have c56b2 : (t325.length == l2.length) = false := by first | simpa using c56 | (simp at c56 ⊢; omega)
                exact absurd (Option.some.inj H) (by rw [hr_]; decide)
              ·rw [if_neg c55] at H
               have c55b0 : ((t321.length : Int) == (l2.length : Int)) = false := beq_eq_false_iff_ne.mpr c55
               have c55b1 : ((t321.length : Int) != (l2.length : Int)) = true := bne_iff_ne.mpr c55
               have c55b2 : (t321.length == l2.length) = false := by first | simpa using c55 | (simp at c55 ⊢; omega)
               exact absurd (Option.some.inj H) (by rw [hr_]; decide)
             ·replace c54 := Bool.eq_false_iff.mpr c54
              subst c54
              have H1 : (some false) = some r := by rw [if_neg (show ¬ (false = true) by decide)] at H; exact H
              clear H
              have H := H1
              clear H1
              exact absurd (Option.some.inj H) (by rw [hr_]; decide)
            ·replace c52 := Bool.eq_false_iff.mpr c52
             subst c52
             have H1 : (some false) = some r := by rw [if_neg (show ¬ (false = true) by decide)] at H; exact H
             clear H
             have H := H1
             clear H1
             exact absurd (Option.some.inj H) (by rw [hr_]; decide)
           ·replace c50 := Bool.eq_false_iff.mpr c50
            subst c50
            have H1 : (some false) = some r := by rw [if_neg (show ¬ (false = true) by decide)] at H; exact H
            clear H
            have H := H1
            clear H1
            exact absurd (Option.some.inj H) (by rw [hr_]; decide)
          ·rw [if_neg c48] at H
           have c48b0 : (t326 == 0) = false := beq_eq_false_iff_ne.mpr c48
           have c48b1 : (t326 != 0) = true := bne_iff_ne.mpr c48
           exact absurd (Option.some.inj H) (by rw [hr_]; decide)
         ·rw [if_neg c47] at H
          have c47b0 : (t322 == 0) = false := beq_eq_false_iff_ne.mpr c47
          have c47b1 : (t322 != 0) = true := bne_iff_ne.mpr c47
          exact absurd (Option.some.inj H) (by rw [hr_]; decide)
        ·replace c45 := Bool.eq_false_iff.mpr c45
         subst c45
         have H1 : (if t322 = 1 then (some ((t321.length : Int) == 0)) else (some false)) = some r := by rw [if_neg (show ¬ (false = true) by decide)] at H; exact H
         clear H
         have H := H1
         clear H1
         by_cases c69 : t322 = 1
         ·rw [if_pos c69] at H
          have c69b0 : (t322 == 1) = true := beq_iff_eq.mpr c69
          have c69b1 : (t322 != 1) = false := bne_eq_false_iff_eq.mpr c69
          clear c69
          obtain rfl := Option.some.inj H
          go_wp2_with (first | ((first | (with_reducible refine gate_callee (f := 9) rfl ?_); refine goesL_ (some 97) rfl rfl Try.func9 (by kernel_rfl) rfl #[.slice Ao20 t297.length co20, .slice Ao21 t300.length co21, .slice A2 l2.length c2] rfl (by (try simp only [List.map_toArray, List.map_cons, List.map_nil]); first | done | rfl | (simp only [List.length_drop, List.length_take]; rfl)) ?_ | go_at_call 9); (with_reducible refine (canon_Left.calls kj16 _ _ t297 _ _ t300 _ _ l2 t321 t322 _ ?side1 ?side2 ?side3 ?side4 ?side5 ?side6 A42.out).mono ?_); (case side1 => repeat (first | exact (Kd.R_reads' HO_7.out).2.2 | (with_reducible refine Kd.C_alloc ?_ _) | (with_reducible refine Kd.C_drewN ?_ _) | (with_reducible refine Kd.C_drew ?_))); (case side2 => exact (Kd.R_reads' HO_7.out).2.1); (case side3 => repeat (first | exact (Kd.R_reads' HO_8.out).2.2 | (with_reducible refine Kd.C_alloc ?_ _) | (with_reducible refine Kd.C_drewN ?_ _) | (with_reducible refine Kd.C_drew ?_))); (case side4 => exact (Kd.R_reads' HO_8.out).2.1); (case side5 => repeat (first | exact (Kd.C_below HR2.out HB.out) | (with_reducible refine Kd.C_alloc ?_ _) | (with_reducible refine Kd.C_drewN ?_ _) | (with_reducible refine Kd.C_drew ?_))); (case side6 => exact HC2.out); rintro e w70 ⟨v323, rfl, ho0, hb⟩; (try refine ⟨_, rfl, ?_⟩); have n0_ := Aside0.mk (Kd.R_below (by (with_reducible repeat (first | apply Kd.R_alloc | apply Kd.R_drewN | apply Kd.R_drew)); exact HO_7.out) hb); have n1_ := Aside0.mk (Kd.R_below (by (with_reducible repeat (first | apply Kd.R_alloc | apply Kd.R_drewN | apply Kd.R_drew)); exact HO_8.out) hb); have n2_ := Aside0.mk (Kd.R_lower ho0 (below_size (by repeat (first | (with_reducible first | exact HB.out | apply below_alloc | apply pw_below_drewN | apply below_drew1) | exact HB.out)))); have n3_ := Aside0.mk (below_step (by repeat (first | (with_reducible first | exact HB.out | apply below_alloc | apply pw_below_drewN | apply below_drew1) | exact HB.out)) hb); clear HO_7; clear HO_8; clear HB; have HO_7 := n0_; have HO_8 := n1_; have HO324 := n2_; have HB := n3_; clear n0_ n1_ n2_ n3_; (try clear hb); (try clear hb2); (try clear hk); (try clear hi); (try clear ho0); obtain ⟨Ao71, co71, eo71⟩ := Kd.R_slice HO324.out; subst eo71) | ((first | (with_reducible refine gate_callee (f := 10) rfl ?_); refine goesL_ (some 104) rfl rfl Try.func10 (by kernel_rfl) rfl #[.slice Ao20 t297.length co20, .slice Ao21 t300.length co21, .slice Ao71 t321.length co71] rfl (by (try simp only [List.map_toArray, List.map_cons, List.map_nil]); first | done | rfl | (simp only [List.length_drop, List.length_take]; rfl)) ?_ | go_at_call 10); (with_reducible refine (canon_Top.calls kj16 _ _ t297 _ _ t300 _ _ t321 t325 t326 _ ?side1 ?side2 ?side3 ?side4 ?side5 ?side6 A43.out).mono ?_); (case side1 => repeat (first | exact (Kd.R_reads' HO_7.out).2.2 | (with_reducible refine Kd.C_alloc ?_ _) | (with_reducible refine Kd.C_drewN ?_ _) | (with_reducible refine Kd.C_drew ?_))); (case side2 => exact (Kd.R_reads' HO_7.out).2.1); (case side3 => repeat (first | exact (Kd.R_reads' HO_8.out).2.2 | (with_reducible refine Kd.C_alloc ?_ _) | (with_reducible refine Kd.C_drewN ?_ _) | (with_reducible refine Kd.C_drew ?_))); (case side4 => exact (Kd.R_reads' HO_8.out).2.1); (case side5 => repeat (first | exact (Kd.R_reads' HO324.out).2.2 | (with_reducible refine Kd.C_alloc ?_ _) | (with_reducible refine Kd.C_drewN ?_ _) | (with_reducible refine Kd.C_drew ?_))); (case side6 => exact (Kd.R_reads' HO324.out).2.1); rintro e w72 ⟨v327, rfl, ho0, hb⟩; (try refine ⟨_, rfl, ?_⟩); have n0_ := Aside0.mk (Kd.R_below (by (with_reducible repeat (first | apply Kd.R_alloc | apply Kd.R_drewN | apply Kd.R_drew)); exact HO_7.out) hb); have n1_ := Aside0.mk (Kd.R_below (by (with_reducible repeat (first | apply Kd.R_alloc | apply Kd.R_drewN | apply Kd.R_drew)); exact HO_8.out) hb); have n2_ := Aside0.mk (Kd.R_elder' (by (with_reducible repeat (first | apply Kd.R_alloc | apply Kd.R_drewN | apply Kd.R_drew)); exact HO324.out) (Kd.R_base ho0) hb); have n3_ := Aside0.mk (Kd.R_lower (Kd.R_new' ho0 (Kd.R_lt (by (with_reducible repeat (first | apply Kd.R_alloc | apply Kd.R_drewN | apply Kd.R_drew)); exact HO324.out))) (below_size (by repeat (first | (with_reducible first | exact HB.out | apply below_alloc | apply pw_below_drewN | apply below_drew1) | exact HB.out)))); have n4_ := Aside0.mk (below_step (by repeat (first | (with_reducible first | exact HB.out | apply below_alloc | apply pw_below_drewN | apply below_drew1) | exact HB.out)) hb); clear HO_7; clear HO_8; clear HO324; clear HB; have HO_7 := n0_; have HO_8 := n1_; have HO324 := n2_; have HO328 := n3_; have HB := n4_; clear n0_ n1_ n2_ n3_ n4_; (try clear hb); (try clear hb2); (try clear hk); (try clear hi); (try clear ho0)) | ((first | (with_reducible refine gate_callee (f := 21) rfl ?_); refine goesL_ (some 110) rfl rfl Try.func21 (by kernel_rfl) rfl #[.slice Ao20 t297.length co20, .slice Ao21 t300.length co21, .slice A2 l2.length c2] rfl (by (try simp only [List.map_toArray, List.map_cons, List.map_nil]); first | done | rfl | (simp only [List.length_drop, List.length_take]; rfl)) ?_ | go_at_call 21); (with_reducible refine (tattingref7_Good.calls kj16 _ _ t297 _ _ t300 _ _ l2 false _ ?side1 ?side2 ?side3 ?side4 ?side5 ?side6 A44.out).mono ?_); (case side1 => repeat (first | exact (Kd.R_reads' HO_7.out).2.2 | (with_reducible refine Kd.C_alloc ?_ _) | (with_reducible refine Kd.C_drewN ?_ _) | (with_reducible refine Kd.C_drew ?_))); (case side2 => exact (Kd.R_reads' HO_7.out).2.1); (case side3 => repeat (first | exact (Kd.R_reads' HO_8.out).2.2 | (with_reducible refine Kd.C_alloc ?_ _) | (with_reducible refine Kd.C_drewN ?_ _) | (with_reducible refine Kd.C_drew ?_))); (case side4 => exact (Kd.R_reads' HO_8.out).2.1); (case side5 => repeat (first | exact (Kd.C_below HR2.out HB.out) | (with_reducible refine Kd.C_alloc ?_ _) | (with_reducible refine Kd.C_drewN ?_ _) | (with_reducible refine Kd.C_drew ?_))); (case side6 => exact HC2.out); rintro e w73 ⟨rfl, hb⟩; (try refine ⟨_, rfl, ?_⟩); have n0_ := Aside0.mk (Kd.R_below (by (with_reducible repeat (first | apply Kd.R_alloc | apply Kd.R_drewN | apply Kd.R_drew)); exact HO_7.out) hb); have n1_ := Aside0.mk (Kd.R_below (by (with_reducible repeat (first | apply Kd.R_alloc | apply Kd.R_drewN | apply Kd.R_drew)); exact HO_8.out) hb); have n2_ := Aside0.mk (Kd.R_below (by (with_reducible repeat (first | apply Kd.R_alloc | apply Kd.R_drewN | apply Kd.R_drew)); exact HO324.out) hb); have n3_ := Aside0.mk (Kd.R_below (by (with_reducible repeat (first | apply Kd.R_alloc | apply Kd.R_drewN | apply Kd.R_drew)); exact HO328.out) hb); have n4_ := Aside0.mk (below_step (by repeat (first | (with_reducible first | exact HB.out | apply below_alloc | apply pw_below_drewN | apply below_drew1) | exact HB.out)) hb); clear HO_7; clear HO_8; clear HO324; clear HO328; clear HB; have HO_7 := n0_; have HO_8 := n1_; have HO324 := n2_; have HO328 := n3_; have HB := n4_; clear n0_ n1_ n2_ n3_ n4_; (try clear hb); (try clear hb2); (try clear hk); (try clear hi)))
          go_ret
          exact ⟨by first | rfl | (simp [errW_none, errW_some] <;> rfl) | (simp [*, errW_none, errW_some] <;> rfl), by repeat (first | (with_reducible first | exact HB.out | apply below_alloc | apply pw_below_drewN | apply below_drew1) | exact HB.out)⟩
         ·rw [if_neg c69] at H
          have c69b0 : (t322 == 1) = false := beq_eq_false_iff_ne.mpr c69
          have c69b1 : (t322 != 1) = true := bne_iff_ne.mpr c69
          exact absurd (Option.some.inj H) (by rw [hr_]; decide)
 ·replace c5 := Bool.eq_false_iff.mpr c5
  subst c5
  have H1 : (some false) = some r := by rw [if_neg (show ¬ (false = true) by decide)] at H; exact H
  clear H
  have H := H1
  clear H1
  exact absurd (Option.some.inj H) (by rw [hr_]; decide)

/-- THE ONE PURE STATEMENT of tattinglaw23_CanonStays: yours. -/
def tattinglaw23_CanonStays.Pure : Prop := ∀ (l0 : List Int) (l1 : List Int) (l2 : List (S28)), l0.length ≤ maxLen → l0.length * 8 ≤ 140737488351232 → (∀ x ∈ l0, (Lit.int .i64 x).wf = true) → l1.length ≤ maxLen → l1.length * 8 ≤ 140737488351232 → (∀ x ∈ l1, (Lit.int .i64 x).wf = true) → l2.length ≤ maxLen → (∀ x ∈ l2, (Lit.int .i64 x.f0).wf = true ∧ (Lit.int .i64 x.f1).wf = true) → ∃ k, tattinglaw23_CanonStays.f k l0 l1 l2 = some true
theorem tattinglaw23_CanonStays.walk (P : tattinglaw23_CanonStays.Pure) (a0 : Option Addr) (len0 cap0 : Nat) (z0 : List Int) (a1 : Option Addr) (len1 cap1 : Nat) (z1 : List Int) (a2 : Option Addr) (cap2 : Nat) (l2 : List (S28)) (w : World) (w0 : (a0 = none ∧ len0 = 0 ∧ cap0 = 0 ∧ z0 = []) ∨ ∃ x, a0 = some x ∧ len0 ≤ cap0 ∧ cap0 ≤ maxLen ∧ z0.length = cap0 ∧ (∀ i, i < z0.length → w.cell? (x.add i) = some (.int .i64 (z0.getD i 0))) ∧ ∀ n ∈ z0, (Lit.int .i64 n).wf = true) (y0 : len0 * 8 ≤ 140737488351232) (w1 : (a1 = none ∧ len1 = 0 ∧ cap1 = 0 ∧ z1 = []) ∨ ∃ x, a1 = some x ∧ len1 ≤ cap1 ∧ cap1 ≤ maxLen ∧ z1.length = cap1 ∧ (∀ i, i < z1.length → w.cell? (x.add i) = some (.int .i64 (z1.getD i 0))) ∧ ∀ n ∈ z1, (Lit.int .i64 n).wf = true) (y1 : len1 * 8 ≤ 140737488351232) (w2 : Kd.C k28 w a2 l2.length l2 ∧ l2.length ≤ cap2 ∧ l2.length ≤ maxLen ∧ (∀ x ∈ l2, (Lit.int .i64 x.f0).wf = true ∧ (Lit.int .i64 x.f1).wf = true)) :
  Calls Try.prog 7 #[.slice a0 len0 cap0, .slice a1 len1 cap1, .slice a2 l2.length cap2] w fun e w' => e = .returned (.bool true) ∧ Below w.heap.size w w' := by
 obtain ⟨l0, rfl, hr0, hm0, hw0, hc0⟩ := ReadsInt.ofRowC w0
 obtain ⟨l1, rfl, hr1, hm1, hw1, hc1⟩ := ReadsInt.ofRowC w1
 obtain ⟨hr2, hc2, hm2, hw2⟩ := w2
 obtain ⟨k, h⟩ := P l0 l1 l2 hm0 y0 hw0 hm1 y1 hw1 hm2 hw2
 refine (tattinglaw23_CanonStays.calls k _ _ l0 _ _ l1 _ _ l2 true w (Kd.C_of_reads (d := (0 : Int)) (h1 := fun _ => rfl) hr0) hc0 (Kd.C_of_reads (d := (0 : Int)) (h1 := fun _ => rfl) hr1) hc1 hr2 hc2 h rfl).mono ?_
 rintro e w' ⟨rfl, hd⟩
 exact ⟨rfl, hd⟩

end Go.Proofs.Ytdegajidkboknaa.PCanonStays
