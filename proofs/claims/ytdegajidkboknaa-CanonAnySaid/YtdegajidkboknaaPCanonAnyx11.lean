/- What the given program's functions come to, each a Lean function and the walk that shows it: no condition beside those that each theorem names. -/
import Derived.Test.YtdegajidkboknaaPCanonAnyx0
import Derived.Test.YtdegajidkboknaaPCanonAnyx9
import Derived.Test.YtdegajidkboknaaPCanonAnyx10
namespace Go.Proofs.Ytdegajidkboknaa.PCanonAny
open Go.RowKit Go.Proofs.YtdegajidkboknaaW.PrintWords Go.Proofs.YtdegajidkboknaaW.PrintLast Go.Proofs.YtdegajidkboknaaW.PrintMore
attribute [local go_sem] max2_int min2_int max_two min_two max_three min_three max_four min_four   -- for this text's walks alone
set_option linter.unusedVariables false
set_option linter.unusedSimpArgs false

/-! ### tattingref7_Halves: function 18 -/
mutual
def tattingref7_Halves.j0 : Nat → List Int → List Int → Int → Int → Int → Int → Bool → Option ((List (S28)) × Int)
 | 0, _, _, _, _, _, _, _ => none
 | k + 1, x0, x1, x2, x3, x10, x11, x29 => if x29 = true then (some (([] : List (S28)), 0)) else (if x10 = 1 then (tattingref7_Halves.l0 k x0 x1 x2 x3 x11 0) else (if 0 ≤ (wrap64 (Int.tdiv x10 2)) then (if (wrap64 (Int.tdiv x10 2)) ≤ (x0.length : Int) then ((tattingref7_Front.f k (x0.take ((wrap64 (Int.tdiv x10 2)) : Int).toNat) x1).bind fun t350 => ((tattingref7_Back.f k (x0.drop ((wrap64 (Int.tdiv x10 2)) : Int).toNat) x1).bind fun t354 => ((tattingref7_Split.f k t350 t354).bind fun bt357 => (if 0 ≤ bt357.1 then (if bt357.1 ≤ (x1.length : Int) then ((tattingref7_Halves.f k (x0.take ((wrap64 (Int.tdiv x10 2)) : Int).toNat) (x1.take (bt357.1 : Int).toNat) x2 x3).bind fun bt361 => ((tattingref7_Halves.f k (x0.drop ((wrap64 (Int.tdiv x10 2)) : Int).toNat) (x1.drop (bt357.1 : Int).toNat) (wrap64 (x2 + (wrap64 (Int.tdiv x10 2)))) (wrap64 (x3 + bt357.1))).bind fun bt367 => ((some (([] : List (S28)) : List (S28))).bind fun y371 => (if y371.length + bt361.1.length < 8796093022208 then ((some (y371 ++ bt361.1 : List (S28))).bind fun y374 => (if y374.length + bt367.1.length < 8796093022208 then (some ((y374 ++ bt367.1), wrap64 ((wrap64 ((wrap64 (x10 * x11)) + bt361.2)) + bt367.2))) else (none))) else (none))))) else (none)) else (none))))) else (none)) else (none)))
def tattingref7_Halves.l0 : Nat → List Int → List Int → Int → Int → Int → Int → Option ((List (S28)) × Int)
 | 0, _, _, _, _, _, _ => none
 | k + 1, x0, x1, x2, x3, x11, x12 => if x12 < x11 then (if 0 ≤ x12 then (if x12 < (x1.length : Int) then (if 0 < (x0.length : Int) then (if (rd x1 x12) = (rd x0 0) then (some ((([(⟨x2, wrap64 (x3 + x12)⟩ : S28)] : List (S28))), x11)) else (tattingref7_Halves.l0 k x0 x1 x2 x3 x11 (wrap64 (x12 + 1)))) else (none)) else (none)) else (none)) else (some (([] : List (S28)), x11))
def tattingref7_Halves.f : Nat → List Int → List Int → Int → Int → Option ((List (S28)) × Int)
 | 0, _, _, _, _ => none
 | k + 1, l0, l1, a2, a3 => if (l0.length : Int) = 0 then (tattingref7_Halves.j0 k l0 l1 a2 a3 (l0.length : Int) (l1.length : Int) true) else (tattingref7_Halves.j0 k l0 l1 a2 a3 (l0.length : Int) (l1.length : Int) ((l1.length : Int) == 0))
end
theorem tattingref7_Halves.mono_l : ∀ k, (∀ y0 y1 y2 y3, LeO (tattingref7_Halves.f k y0 y1 y2 y3) (tattingref7_Halves.f (k + 1) y0 y1 y2 y3)) ∧ (∀ y0 y1 y2 y3 y4 y5 y6, LeO (tattingref7_Halves.j0 k y0 y1 y2 y3 y4 y5 y6) (tattingref7_Halves.j0 (k + 1) y0 y1 y2 y3 y4 y5 y6)) ∧ (∀ y0 y1 y2 y3 y4 y5, LeO (tattingref7_Halves.l0 k y0 y1 y2 y3 y4 y5) (tattingref7_Halves.l0 (k + 1) y0 y1 y2 y3 y4 y5))
 | 0 => ⟨fun _ _ _ _ r h => by simp [tattingref7_Halves.f] at h, fun _ _ _ _ _ _ _ r h => by simp [tattingref7_Halves.j0] at h, fun _ _ _ _ _ _ r h => by simp [tattingref7_Halves.l0] at h⟩
 | k + 1 => by
  obtain ⟨ih0, ih1, ih2⟩ := tattingref7_Halves.mono_l k
  refine ⟨?_, ?_, ?_⟩
  ·intro y0 y1 y2 y3
   unfold tattingref7_Halves.f
   repeat' first
   | (with_reducible exact ih0 _ _ _ _)
   | (with_reducible exact ih1 _ _ _ _ _ _ _)
   | (with_reducible exact ih2 _ _ _ _ _ _)
   | (with_reducible exact tattingref7_Back.mono _ _ _)
   | (with_reducible exact tattingref7_Front.mono _ _ _)
   | (with_reducible exact tattingref7_Split.mono _ _ _)
   | (with_reducible exact LeO.refl _)
   | (with_reducible exact LeO.none _)
   | (with_reducible refine LeO.ite ?_ ?_)
   | (with_reducible refine LeO.bind ?_ (fun _ => ?_))
   | exact ih0 _ _ _ _
   | exact ih1 _ _ _ _ _ _ _
   | exact ih2 _ _ _ _ _ _
   | exact tattingref7_Back.mono _ _ _
   | exact tattingref7_Front.mono _ _ _
   | exact tattingref7_Split.mono _ _ _
   | exact LeO.none _
   | refine LeO.ite ?_ ?_
   | refine LeO.bind ?_ (fun _ => ?_)
  ·intro y0 y1 y2 y3 y4 y5 y6
   unfold tattingref7_Halves.j0
   repeat' first
   | (with_reducible exact ih0 _ _ _ _)
   | (with_reducible exact ih1 _ _ _ _ _ _ _)
   | (with_reducible exact ih2 _ _ _ _ _ _)
   | (with_reducible exact tattingref7_Back.mono _ _ _)
   | (with_reducible exact tattingref7_Front.mono _ _ _)
   | (with_reducible exact tattingref7_Split.mono _ _ _)
   | (with_reducible exact LeO.refl _)
   | (with_reducible exact LeO.none _)
   | (with_reducible refine LeO.ite ?_ ?_)
   | (with_reducible refine LeO.bind ?_ (fun _ => ?_))
   | exact ih0 _ _ _ _
   | exact ih1 _ _ _ _ _ _ _
   | exact ih2 _ _ _ _ _ _
   | exact tattingref7_Back.mono _ _ _
   | exact tattingref7_Front.mono _ _ _
   | exact tattingref7_Split.mono _ _ _
   | exact LeO.none _
   | refine LeO.ite ?_ ?_
   | refine LeO.bind ?_ (fun _ => ?_)
  ·intro y0 y1 y2 y3 y4 y5
   unfold tattingref7_Halves.l0
   repeat' first
   | (with_reducible exact ih0 _ _ _ _)
   | (with_reducible exact ih1 _ _ _ _ _ _ _)
   | (with_reducible exact ih2 _ _ _ _ _ _)
   | (with_reducible exact tattingref7_Back.mono _ _ _)
   | (with_reducible exact tattingref7_Front.mono _ _ _)
   | (with_reducible exact tattingref7_Split.mono _ _ _)
   | (with_reducible exact LeO.refl _)
   | (with_reducible exact LeO.none _)
   | (with_reducible refine LeO.ite ?_ ?_)
   | (with_reducible refine LeO.bind ?_ (fun _ => ?_))
   | exact ih0 _ _ _ _
   | exact ih1 _ _ _ _ _ _ _
   | exact ih2 _ _ _ _ _ _
   | exact tattingref7_Back.mono _ _ _
   | exact tattingref7_Front.mono _ _ _
   | exact tattingref7_Split.mono _ _ _
   | exact LeO.none _
   | refine LeO.ite ?_ ?_
   | refine LeO.bind ?_ (fun _ => ?_)
theorem tattingref7_Halves.mono : ∀ a0 a1 a2 a3 k, LeO (tattingref7_Halves.f k a0 a1 a2 a3) (tattingref7_Halves.f (k + 1) a0 a1 a2 a3) := by
 intro a0 a1 a2 a3 k
 obtain ⟨ih0, ih1, ih2⟩ := tattingref7_Halves.mono_l k
 exact ih0 a0 a1 a2 a3
def tattingref7_Halves.T8 : Bool × List (List Nat × List Nat) := (true, [([], []), ([], []), ([0, 1], [0, 1]), ([2], [2]), ([], []), ([4], [4]), ([5], [5]), ([3, 6], [3, 6])])
def tattingref7_Halves.B8 : List Nat := [0, 0, 3, 7, 0, 16, 48, 127]
theorem tattingref7_Halves.tab8 : rtab .any (opsOf Try.f18 8) = tattingref7_Halves.T8 := by kernel_rfl
theorem tattingref7_Halves.bits8 : waitsOk tattingref7_Halves.T8.2 tattingref7_Halves.B8 = true := by kernel_rfl
def tattingref7_Halves.T12 : Bool × List (List Nat × List Nat) := (true, [([], []), ([], []), ([0, 1], [0, 1]), ([], []), ([2, 3], [2, 3]), ([], []), ([], []), ([5, 6], [5, 6]), ([], []), ([7, 8, 4], [7, 8]), ([4, 9, 9], [4, 9]), ([10], [10]), ([11], [11]), ([11], [11]), ([12, 10, 0, 1, 2, 3, 4, 5, 6, 7, 8, 9, 10, 11, 12], [12]), ([13, 14, 0, 1, 2, 3, 4, 5, 6, 7, 8, 9, 10, 11, 12, 13, 14], [13])])
def tattingref7_Halves.B12 : List Nat := [0, 0, 3, 0, 15, 0, 0, 96, 0, 511, 1023, 2047, 4095, 4095, 8191, 32767]
theorem tattingref7_Halves.tab12 : rtab .any (opsOf Try.f18 12) = tattingref7_Halves.T12 := by kernel_rfl
theorem tattingref7_Halves.bits12 : waitsOk tattingref7_Halves.T12.2 tattingref7_Halves.B12 = true := by kernel_rfl
def tattingref7_Halves.T13 : Bool × List (List Nat × List Nat) := (true, [([], []), ([], []), ([0, 1], [0, 1]), ([], []), ([], []), ([3, 4], [3, 4]), ([], []), ([], []), ([2, 5, 6, 7], [2, 5, 6, 7]), ([8], [8]), ([9], [9]), ([9], [9]), ([10, 8, 0, 1, 2, 3, 4, 5, 6, 7, 8, 9, 10], [10]), ([11, 12, 0, 1, 2, 3, 4, 5, 6, 7, 8, 9, 10, 11, 12], [11])])
def tattingref7_Halves.B13 : List Nat := [0, 0, 3, 0, 0, 24, 0, 0, 255, 511, 1023, 1023, 2047, 8191]
theorem tattingref7_Halves.tab13 : rtab .any (opsOf Try.f18 13) = tattingref7_Halves.T13 := by kernel_rfl
theorem tattingref7_Halves.bits13 : waitsOk tattingref7_Halves.T13.2 tattingref7_Halves.B13 = true := by kernel_rfl
def tattingref7_Halves.T14 : Bool × List (List Nat × List Nat) := (true, [([], []), ([], []), ([0, 1], [0, 1]), ([], []), ([], []), ([3, 4], [3, 4]), ([], []), ([], []), ([6, 7], [6, 7]), ([], []), ([], []), ([9, 10], [9, 10]), ([2, 5, 8, 11], [2, 5, 8, 11]), ([12], [12]), ([13], [13]), ([13], [13]), ([14, 12, 0, 1, 2, 3, 4, 5, 6, 7, 8, 9, 10, 11, 12, 13, 14], [14]), ([15, 16, 0, 1, 2, 3, 4, 5, 6, 7, 8, 9, 10, 11, 12, 13, 14, 15, 16], [15])])
def tattingref7_Halves.B14 : List Nat := [0, 0, 3, 0, 0, 24, 0, 0, 192, 0, 0, 1536, 4095, 8191, 16383, 16383, 32767, 131071]
theorem tattingref7_Halves.tab14 : rtab .any (opsOf Try.f18 14) = tattingref7_Halves.T14 := by kernel_rfl
theorem tattingref7_Halves.bits14 : waitsOk tattingref7_Halves.T14.2 tattingref7_Halves.B14 = true := by kernel_rfl
set_option maxHeartbeats 8000000 in
set_option maxRecDepth 100000 in
theorem tattingref7_Halves.calls (k : Nat) : ∀ (A0 : Option Addr) (c0 : Nat) (l0 : List Int) (A1 : Option Addr) (c1 : Nat) (l1 : List Int) (a2 : Int) (a3 : Int) (r1 : List (S28)) (r2 : Int) (w : World) (hr0 : Kd.C (Kd.int .i64) w A0 l0.length l0) (hc0 : l0.length ≤ c0) (hr1 : Kd.C (Kd.int .i64) w A1 l1.length l1) (hc1 : l1.length ≤ c1) (h : tattingref7_Halves.f k l0 l1 a2 a3 = some (r1, r2)),
  Calls Try.prog 18 #[.slice A0 l0.length c0, .slice A1 l1.length c1, .int .i64 a2, .int .i64 a3] w fun e w' => ∃ v0_ : Value, e = .returned (.tuple #[v0_, .int .i64 r2]) ∧ Kd.R k28 28 w' w.heap.size (fun _ => True) v0_ r1 ∧ Below w.heap.size w w' := by
 induction k using Nat.strongRecOn with
 | _ k ih =>
 intro A0 c0 l0 A1 c1 l1 a2 a3 r1 r2 w hr0 hc0 hr1 hc1 h
 cases k with
 | zero => exact absurd h (by simp [tattingref7_Halves.f])
 | succ k =>
 simp only [tattingref7_Halves.f] at h
 have hu28 := Try.underlying28
 have HR0 := Aside0.mk hr0
 have HC0 := Aside0.mk hc0
 clear hr0 hc0
 have HR1 := Aside0.mk hr1
 have HC1 := Aside0.mk hc1
 clear hr1 hc1
 have HB := Aside0.mk (Below.refl w.heap.size w)
 have H : (if (l0.length : Int) = 0 then (tattingref7_Halves.j0 k l0 l1 a2 a3 (l0.length : Int) (l1.length : Int) true) else (tattingref7_Halves.j0 k l0 l1 a2 a3 (l0.length : Int) (l1.length : Int) ((l1.length : Int) == 0))) = some (r1, r2) := h
 clear h
 have HC5 := Aside0.mk H
 clear H
 go_enter Try.func18, Try.ntmps18
 try dsimp only [List.append]
 go_upto_region 2 with (fail)
 go_cut [29] (fun v29 wc => ∃ (kq : Nat) (x29_4 : Bool), v29 = .bool x29_4 ∧ Aside0 (tattingref7_Halves.j0 kq l0 l1 a2 a3 (l0.length : Int) (l1.length : Int) x29_4 = some (r1, r2)) ∧ Aside0 (kq ≤ k) ∧ Aside0 (Below w.heap.size w wc))
 case first =>
  have H := HC5.out
  clear HC5
  by_cases c6 : (l0.length : Int) = 0
  ·rw [if_pos c6] at H
   have c6b0 : ((l0.length : Int) == 0) = true := beq_iff_eq.mpr c6
   have c6b1 : ((l0.length : Int) != 0) = false := bne_eq_false_iff_eq.mpr c6
   clear c6
   (first | rw [c6b0] | (simp only [i64_w, i32_w]; rw [c6b0]) | skip)
   have H' := Aside0.mk H
   clear H
   go_wp2
   go_meet
   case rel => exact ⟨_, (true), (by first | rfl | (simp; done) | (simp [*]; done)), H', ⟨by first | omega | exact Nat.le_refl _⟩, ⟨by repeat (first | (with_reducible first | exact HB.out | apply below_alloc | apply pw_below_drewN | apply below_drew1) | exact HB.out)⟩⟩
  ·rw [if_neg c6] at H
   have c6b0 : ((l0.length : Int) == 0) = false := beq_eq_false_iff_ne.mpr c6
   have c6b1 : ((l0.length : Int) != 0) = true := bne_iff_ne.mpr c6
   have c6b2 : ¬ (l0 = []) := fun h_ => c6 (by rw [h_]; rfl)
   (first | rw [c6b0] | (simp only [i64_w, i32_w]; rw [c6b0]) | skip)
   have H' := Aside0.mk H
   clear H
   go_wp2
   go_meet
   case rel => exact ⟨_, (((l1.length : Int) == 0)), (by first | rfl | (simp; done) | (simp [*]; done)), H', ⟨by first | omega | exact Nat.le_refl _⟩, ⟨by repeat (first | (with_reducible first | exact HB.out | apply below_alloc | apply pw_below_drewN | apply below_drew1) | exact HB.out)⟩⟩
 case rest =>
  clear HC5
  try clear c1
  try clear p2
  try clear c6
  try clear c6b0
  try clear c6b1
  try clear c6b2
  obtain ⟨kq, x29_4, rfl, HA, HJ4, HB⟩ := hcut
  cases kq with
  | zero => exact absurd HA.out (by simp [tattingref7_Halves.j0])
  | succ kj4 =>
   have H := HA.out
   clear HA
   simp only [tattingref7_Halves.j0] at H
   by_cases c7 : x29_4 = true
   ·subst c7
    have H1 : (some (([] : List (S28)), 0)) = some (r1, r2) := by rw [if_pos rfl] at H; exact H
    clear H
    have H := H1
    clear H1
    simp only [Option.some.injEq, Prod.mk.injEq] at H
    obtain ⟨rfl, rfl⟩ := H
    go_wp2
    go_ret2
    exact ⟨_, by first | rfl | (simp [errW_none, errW_some] <;> rfl) | (simp [*, errW_none, errW_some] <;> rfl), by first | exact Kd.R_nil _ _ _ _ _ | exact Kd.N_nil _ _ _ _ _ | exact Kd.V_nil _ _ _ _ _ | exact Kd.Q_nil _ _ _ _ _ | exact Kd.S_nil _ _ _ _ _, by repeat (first | (with_reducible first | exact HB.out | apply below_alloc | apply pw_below_drewN | apply below_drew1) | exact HB.out)⟩
   ·replace c7 := Bool.eq_false_iff.mpr c7
    subst c7
    have H1 : (if (l0.length : Int) = 1 then (tattingref7_Halves.l0 kj4 l0 l1 a2 a3 (l1.length : Int) 0) else (if 0 ≤ (wrap64 (Int.tdiv (l0.length : Int) 2)) then (if (wrap64 (Int.tdiv (l0.length : Int) 2)) ≤ (l0.length : Int) then ((tattingref7_Front.f kj4 (l0.take ((wrap64 (Int.tdiv (l0.length : Int) 2)) : Int).toNat) l1).bind fun t350 => ((tattingref7_Back.f kj4 (l0.drop ((wrap64 (Int.tdiv (l0.length : Int) 2)) : Int).toNat) l1).bind fun t354 => ((tattingref7_Split.f kj4 t350 t354).bind fun bt357 => (if 0 ≤ bt357.1 then (if bt357.1 ≤ (l1.length : Int) then ((tattingref7_Halves.f kj4 (l0.take ((wrap64 (Int.tdiv (l0.length : Int) 2)) : Int).toNat) (l1.take (bt357.1 : Int).toNat) a2 a3).bind fun bt361 => ((tattingref7_Halves.f kj4 (l0.drop ((wrap64 (Int.tdiv (l0.length : Int) 2)) : Int).toNat) (l1.drop (bt357.1 : Int).toNat) (wrap64 (a2 + (wrap64 (Int.tdiv (l0.length : Int) 2)))) (wrap64 (a3 + bt357.1))).bind fun bt367 => ((some (([] : List (S28)) : List (S28))).bind fun y371 => (if y371.length + bt361.1.length < 8796093022208 then ((some (y371 ++ bt361.1 : List (S28))).bind fun y374 => (if y374.length + bt367.1.length < 8796093022208 then (some ((y374 ++ bt367.1), wrap64 ((wrap64 ((wrap64 ((l0.length : Int) * (l1.length : Int))) + bt361.2)) + bt367.2))) else (none))) else (none))))) else (none)) else (none))))) else (none)) else (none))) = some (r1, r2) := by rw [if_neg (show ¬ (false = true) by decide)] at H; exact H
    clear H
    have H := H1
    clear H1
    by_cases c8 : (l0.length : Int) = 1
    ·rw [if_pos c8] at H
     have c8b0 : ((l0.length : Int) == 1) = true := beq_iff_eq.mpr c8
     have c8b1 : ((l0.length : Int) != 1) = false := bne_eq_false_iff_eq.mpr c8
     clear c8
     have H' := Aside0.mk H
     clear H
     go_wp2
     go_loopg [12] kj4 (fun kq v12 w' => ∃ (x12_2 : Int), v12 = .int .i64 x12_2 ∧ Aside0 (tattingref7_Halves.l0 kq l0 l1 a2 a3 (l1.length : Int) x12_2 = some (r1, r2)) ∧ Aside0 (kq ≤ kj4) ∧ Aside0 (Below w.heap.size w w'))
     case atStart => exact ⟨(0), (by first | rfl | (simp; done) | (simp [*]; done)), H', ⟨Nat.le_refl _⟩, ⟨by repeat (first | (with_reducible first | exact HB.out | apply below_alloc | apply pw_below_drewN | apply below_drew1) | exact HB.out)⟩⟩
     case round =>
      clear H'
      try clear c1
      try clear p2
      try clear c6
      try clear c6b0
      try clear c6b1
      try clear c6b2
      try clear p6
      try clear c7
      try clear c8
      try clear c8b0
      try clear c8b1
      try clear p2
      obtain ⟨x12_2, rfl, HA, HK2, HB⟩ := hrel
      cases gk with
      | zero => exact absurd HA.out (by simp [tattingref7_Halves.l0])
      | succ k2 =>
       have H := HA.out
       clear HA
       simp only [tattingref7_Halves.l0] at H
       by_cases c9 : x12_2 < (l1.length : Int)
       ·rw [if_pos c9] at H
        have c9b0 : decide (x12_2 < (l1.length : Int)) = true := decide_eq_true c9
        clear c9
        by_cases c10 : 0 ≤ x12_2
        ·rw [if_pos c10] at H
         have c10b0 : decide (0 ≤ x12_2) = true := decide_eq_true c10
         clear c10
         by_cases c11 : x12_2 < (l1.length : Int)
         ·rw [if_pos c11] at H
          have c11b0 : decide (x12_2 < (l1.length : Int)) = true := decide_eq_true c11
          clear c11
          by_cases c12 : 0 < (l0.length : Int)
          ·rw [if_pos c12] at H
           have c12b0 : decide (0 < (l0.length : Int)) = true := decide_eq_true c12
           have c12b1 : decide (0 < l0.length) = true := decide_eq_true (by omega)
           clear c12
           by_cases c13 : (rd l1 x12_2) = (rd l0 0)
           ·rw [if_pos c13] at H
            have c13b0 : ((rd l1 x12_2) == (rd l0 0)) = true := beq_iff_eq.mpr c13
            have c13b1 : ((rd l1 x12_2) != (rd l0 0)) = false := bne_eq_false_iff_eq.mpr c13
            clear c13
            obtain ⟨y346, hy346⟩ : ∃ y_ : List (S28), y_ = (([(⟨a2, wrap64 (a3 + x12_2)⟩ : S28)] : List (S28))) := ⟨_, rfl⟩
            replace H : (some (y346, (l1.length : Int))) = some (r1, r2) := by first | (rw [hy346]; with_reducible exact H) | (have H2_ := (Option.bind_some _ _).symm.trans H; rw [hy346]; with_reducible exact H2_) | (have H2_ := (Option.bind_some _ _).symm.trans H; with_reducible exact H2_) | with_reducible exact H | (rw [hy346]; exact H) | exact H
            have Ny346 := Aside0.mk hy346
            clear hy346
            simp only [Option.some.injEq, Prod.mk.injEq] at H
            obtain ⟨rfl, rfl⟩ := H
            try go_wp2
            have n0_ := Aside0.mk (below_drew1 HB.out)
            clear HB
            have HB := n0_
            clear n0_
            have p344 : 0 ≤ (x12_2 : Int) := of_decide_eq_true (by first | (with_reducible assumption) | assumption)
            have q344 : x12_2 < (l1.length : Int) := of_decide_eq_true (by first | (with_reducible assumption) | assumption)
            obtain ⟨ad344, e344, hx344_0⟩ := Kd.at_int HR1.out x12_2 p344 q344
            have hw344_0 := hx344_0
            cases e344
            replace hx344_0 := (HB.out.cell (World.block_lt_of_cell? w _ hx344_0)).trans hx344_0
            replace p344 := eq_true p344
            replace q344 := eq_true q344
            have p345 : 0 ≤ (0 : Int) := (by omega)
            have q345 : 0 < (l0.length : Int) := of_decide_eq_true (by first | (with_reducible assumption) | assumption)
            obtain ⟨ad345, e345, hx345_0⟩ := Kd.at_int HR0.out 0 p345 q345
            have hw345_0 := hx345_0
            (try rw [show ((0 : Int)).toNat = 0 from rfl] at hw345_0)
            (try rw [show 0 * 1 = 0 from rfl] at hw345_0)
            (try rw [Addr.add_zero'] at hw345_0)
            cases e345
            have qi345 : (0 < l0.length) = True := eq_true (by omega)
            (try rw [show ((0 : Int)).toNat = 0 from rfl] at hx345_0)
            (try rw [Addr.add_zero'] at hx345_0)
            replace hx345_0 := (HB.out.cell (World.block_lt_of_cell? w _ hx345_0)).trans hx345_0
            replace p345 := eq_true p345
            replace q345 := eq_true q345
            refine start_ (n := 8) (S := fun w' => w'.cell? (ad344.add (x12_2).toNat) = some (.int .i64 (rd l1 x12_2)) ∧ w'.cell? ad345 = some (.int .i64 (rd l0 0))) (ds := []) #[N,N,N,N,N,N,N,N] (by kernel_rfl) rfl rfl ⟨((HB.out.cell (World.block_lt_of_cell? w _ hw344_0)).trans hw344_0), ((HB.out.cell (World.block_lt_of_cell? w _ hw345_0)).trans hw345_0)⟩ (fun hHeld => ?_); refine with_tabW tattingref7_Halves.tab8 tattingref7_Halves.bits8 (fun HT_ HW_ => ?_)
            generalize wr.drew = w14 at HB hx344_0 hx345_0 hHeld ⊢
            refine pure_ (i := 0) (N := some 37) (v := ?_) (a' := ?_) #[Y,N,N,N,N,N,N,N] rfl rfl (any_of HT_.out (by kernel_rfl)) (fun _ _ _ h => h) (Or.inl ⟨by rfl, ?_⟩) ?_ ?_; rotate_left
            ·intro w'; go_simp; with_reducible rfl
            rotate_left
            ·simp only [Act.put, sA,sB,sC, i64_w, i32_w]; rfl
            refine pure_ (i := 1) (N := some 38) (v := ?_) (a' := ?_) #[Y,Y,N,N,N,N,N,N] rfl rfl (any_of HT_.out (by kernel_rfl)) (fun _ _ _ h => h) (Or.inl ⟨by rfl, ?_⟩) ?_ ?_; rotate_left
            ·intro w'; go_simp; with_reducible rfl
            rotate_left
            ·simp only [Act.put, sA,sB,sC, i64_w, i32_w]; rfl
            refine pure_ (i := 2) (N := some 39) (v := ?_) (a' := ?_) #[Y,Y,Y,N,N,N,N,N] rfl rfl (any_of HT_.out (by kernel_rfl)) (fun _ _ _ h => h) (Or.inl ⟨by rfl, ?_⟩) ?_ ?_; rotate_left
            ·intro w'; go_simp; with_reducible rfl
            rotate_left
            ·simp only [Act.put, sA,sB,sC, i64_w, i32_w]; rfl
            refine pure_ (i := 4) (N := some 41) (v := ?_) (a' := ?_) #[Y,Y,Y,N,Y,N,N,N] rfl rfl (any_of HT_.out (by kernel_rfl)) (fun _ _ _ h => h) (Or.inl ⟨by rfl, ?_⟩) ?_ ?_; rotate_left
            ·intro w'; go_simp; with_reducible rfl
            rotate_left
            ·simp only [Act.put, sA,sB,sC, i64_w, i32_w]; rfl
            refine pure_ (i := 5) (N := some 42) (v := ?_) (a' := ?_) #[Y,Y,Y,N,Y,Y,N,N] rfl rfl (any_of HT_.out (by kernel_rfl)) (fun _ _ _ h => h) (Or.inl ⟨by rfl, ?_⟩) ?_ ?_; rotate_left
            ·intro w'; go_simp; with_reducible rfl
            rotate_left
            ·simp only [Act.put, sA,sB,sC, i64_w, i32_w]; rfl
            refine take_ (i := 3) (N := some 40) (v := ?_) (a' := ?_) #[Y,Y,Y,Y,Y,Y,N,N] rfl rfl (take_ofW HT_.out HW_.out (by kernel_rfl)) (fun _ _ _ h => h) (Or.inl ⟨by rfl, ?_⟩) hHeld ?_ ?_; rotate_left
            ·rintro w' ⟨s0, s1⟩; go_simp; with_reducible rfl
            rotate_left
            ·simp only [Act.put, sA,sB,sC, i64_w, i32_w]; rfl
            refine take_ (i := 6) (N := some 43) (v := ?_) (a' := ?_) #[Y,Y,Y,Y,Y,Y,Y,N] rfl rfl (take_ofW HT_.out HW_.out (by kernel_rfl)) (fun _ _ _ h => h) (Or.inl ⟨by rfl, ?_⟩) hHeld ?_ ?_; rotate_left
            ·rintro w' ⟨s0, s1⟩; go_simp; with_reducible rfl
            rotate_left
            ·simp only [Act.put, sA,sB,sC, i64_w, i32_w]; rfl
            refine pure_ (i := 7) (N := some 44) (v := ?_) (a' := ?_) #[Y,Y,Y,Y,Y,Y,Y,Y] rfl rfl (any_of HT_.out (by kernel_rfl)) (fun _ _ _ h => h) (Or.inl ⟨by rfl, ?_⟩) ?_ ?_; rotate_left
            ·intro w'; go_simp; with_reducible rfl
            rotate_left
            ·simp only [Act.put, sA,sB,sC, i64_w, i32_w]; rfl
            refine done_ (done_of HT_.out (by kernel_rfl)) ?_
            try go_wp2_with (first | ((with_reducible refine gate_dst (N := 50) rfl ?_); refine Kd.R_lit k28 _ 28 ?hg (N := 50) ?hd (xs := ([(⟨a2, wrap64 (a3 + x12_2)⟩ : S28)] : List (S28))) (inner := [.int .i64 a2, .int .i64 (wrap64 (a3 + x12_2))]) (ok := fun _ => True) (okp := fun _ => True) ?hr ?hp (fun _ hk => hk) trivial (Below.refl _ _) (Nat.le_refl _) (by simp) ?_; (case hd => rfl); (case hg => rfl); (case hr => first | (go_simp; done) | (go_simp; rfl)); (case hp => exact (Reps.c2 (show Kd.M k28 _ _ _ (⟨a2, wrap64 (a3 + x12_2)⟩ : S28) [.int .i64 a2, .int .i64 (wrap64 (a3 + x12_2))] from (k28_mkM _ _ _ (⟨a2, wrap64 (a3 + x12_2)⟩ : S28) )) (Reps.none _ _))); intro v347 w15 ho16 hb hg_ hnew_; (try clear hg_); (try clear hnew_); (first | rw [← Ny346.out] at ho16 | (simp only [Int.reduceToNat] at ho16; rw [← Ny346.out] at ho16)); have n0_ := Aside0.mk (Kd.R_lower ho16 (below_size (by repeat (first | (with_reducible first | exact HB.out | apply below_alloc | apply pw_below_drewN | apply below_drew1) | exact HB.out)))); have n1_ := Aside0.mk (below_step (by repeat (first | (with_reducible first | exact HB.out | apply below_alloc | apply pw_below_drewN | apply below_drew1) | exact HB.out)) hb); clear HB; have HO348 := n0_; have HB := n1_; clear n0_ n1_; (try clear hb); (try clear ho16)))
            go_ret2
            exact ⟨_, by first | rfl | (simp [errW_none, errW_some] <;> rfl) | (simp [*, errW_none, errW_some] <;> rfl), by (with_reducible repeat (first | apply Kd.R_alloc | apply Kd.R_drewN | apply Kd.R_drew)); exact HO348.out, by repeat (first | (with_reducible first | exact HB.out | apply below_alloc | apply pw_below_drewN | apply below_drew1) | exact HB.out)⟩
           ·rw [if_neg c13] at H
            have c13b0 : ((rd l1 x12_2) == (rd l0 0)) = false := beq_eq_false_iff_ne.mpr c13
            have c13b1 : ((rd l1 x12_2) != (rd l0 0)) = true := bne_iff_ne.mpr c13
            have H' := Aside0.mk H
            clear H
            try go_wp2
            have n0_ := Aside0.mk (below_drew1 HB.out)
            clear HB
            have HB := n0_
            clear n0_
            have p344 : 0 ≤ (x12_2 : Int) := of_decide_eq_true (by first | (with_reducible assumption) | assumption)
            have q344 : x12_2 < (l1.length : Int) := of_decide_eq_true (by first | (with_reducible assumption) | assumption)
            obtain ⟨ad344, e344, hx344_0⟩ := Kd.at_int HR1.out x12_2 p344 q344
            have hw344_0 := hx344_0
            cases e344
            replace hx344_0 := (HB.out.cell (World.block_lt_of_cell? w _ hx344_0)).trans hx344_0
            replace p344 := eq_true p344
            replace q344 := eq_true q344
            have p345 : 0 ≤ (0 : Int) := (by omega)
            have q345 : 0 < (l0.length : Int) := of_decide_eq_true (by first | (with_reducible assumption) | assumption)
            obtain ⟨ad345, e345, hx345_0⟩ := Kd.at_int HR0.out 0 p345 q345
            have hw345_0 := hx345_0
            (try rw [show ((0 : Int)).toNat = 0 from rfl] at hw345_0)
            (try rw [show 0 * 1 = 0 from rfl] at hw345_0)
            (try rw [Addr.add_zero'] at hw345_0)
            cases e345
            have qi345 : (0 < l0.length) = True := eq_true (by omega)
            (try rw [show ((0 : Int)).toNat = 0 from rfl] at hx345_0)
            (try rw [Addr.add_zero'] at hx345_0)
            replace hx345_0 := (HB.out.cell (World.block_lt_of_cell? w _ hx345_0)).trans hx345_0
            replace p345 := eq_true p345
            replace q345 := eq_true q345
            refine start_ (n := 8) (S := fun w' => w'.cell? (ad344.add (x12_2).toNat) = some (.int .i64 (rd l1 x12_2)) ∧ w'.cell? ad345 = some (.int .i64 (rd l0 0))) (ds := []) #[N,N,N,N,N,N,N,N] (by kernel_rfl) rfl rfl ⟨((HB.out.cell (World.block_lt_of_cell? w _ hw344_0)).trans hw344_0), ((HB.out.cell (World.block_lt_of_cell? w _ hw345_0)).trans hw345_0)⟩ (fun hHeld => ?_); refine with_tabW tattingref7_Halves.tab8 tattingref7_Halves.bits8 (fun HT_ HW_ => ?_)
            generalize wr.drew = w17 at HB hx344_0 hx345_0 hHeld ⊢
            refine pure_ (i := 0) (N := some 37) (v := ?_) (a' := ?_) #[Y,N,N,N,N,N,N,N] rfl rfl (any_of HT_.out (by kernel_rfl)) (fun _ _ _ h => h) (Or.inl ⟨by rfl, ?_⟩) ?_ ?_; rotate_left
            ·intro w'; go_simp; with_reducible rfl
            rotate_left
            ·simp only [Act.put, sA,sB,sC, i64_w, i32_w]; rfl
            refine pure_ (i := 1) (N := some 38) (v := ?_) (a' := ?_) #[Y,Y,N,N,N,N,N,N] rfl rfl (any_of HT_.out (by kernel_rfl)) (fun _ _ _ h => h) (Or.inl ⟨by rfl, ?_⟩) ?_ ?_; rotate_left
            ·intro w'; go_simp; with_reducible rfl
            rotate_left
            ·simp only [Act.put, sA,sB,sC, i64_w, i32_w]; rfl
            refine pure_ (i := 2) (N := some 39) (v := ?_) (a' := ?_) #[Y,Y,Y,N,N,N,N,N] rfl rfl (any_of HT_.out (by kernel_rfl)) (fun _ _ _ h => h) (Or.inl ⟨by rfl, ?_⟩) ?_ ?_; rotate_left
            ·intro w'; go_simp; with_reducible rfl
            rotate_left
            ·simp only [Act.put, sA,sB,sC, i64_w, i32_w]; rfl
            refine pure_ (i := 4) (N := some 41) (v := ?_) (a' := ?_) #[Y,Y,Y,N,Y,N,N,N] rfl rfl (any_of HT_.out (by kernel_rfl)) (fun _ _ _ h => h) (Or.inl ⟨by rfl, ?_⟩) ?_ ?_; rotate_left
            ·intro w'; go_simp; with_reducible rfl
            rotate_left
            ·simp only [Act.put, sA,sB,sC, i64_w, i32_w]; rfl
            refine pure_ (i := 5) (N := some 42) (v := ?_) (a' := ?_) #[Y,Y,Y,N,Y,Y,N,N] rfl rfl (any_of HT_.out (by kernel_rfl)) (fun _ _ _ h => h) (Or.inl ⟨by rfl, ?_⟩) ?_ ?_; rotate_left
            ·intro w'; go_simp; with_reducible rfl
            rotate_left
            ·simp only [Act.put, sA,sB,sC, i64_w, i32_w]; rfl
            refine take_ (i := 3) (N := some 40) (v := ?_) (a' := ?_) #[Y,Y,Y,Y,Y,Y,N,N] rfl rfl (take_ofW HT_.out HW_.out (by kernel_rfl)) (fun _ _ _ h => h) (Or.inl ⟨by rfl, ?_⟩) hHeld ?_ ?_; rotate_left
            ·rintro w' ⟨s0, s1⟩; go_simp; with_reducible rfl
            rotate_left
            ·simp only [Act.put, sA,sB,sC, i64_w, i32_w]; rfl
            refine take_ (i := 6) (N := some 43) (v := ?_) (a' := ?_) #[Y,Y,Y,Y,Y,Y,Y,N] rfl rfl (take_ofW HT_.out HW_.out (by kernel_rfl)) (fun _ _ _ h => h) (Or.inl ⟨by rfl, ?_⟩) hHeld ?_ ?_; rotate_left
            ·rintro w' ⟨s0, s1⟩; go_simp; with_reducible rfl
            rotate_left
            ·simp only [Act.put, sA,sB,sC, i64_w, i32_w]; rfl
            refine pure_ (i := 7) (N := some 44) (v := ?_) (a' := ?_) #[Y,Y,Y,Y,Y,Y,Y,Y] rfl rfl (any_of HT_.out (by kernel_rfl)) (fun _ _ _ h => h) (Or.inl ⟨by rfl, ?_⟩) ?_ ?_; rotate_left
            ·intro w'; go_simp; with_reducible rfl
            rotate_left
            ·simp only [Act.put, sA,sB,sC, i64_w, i32_w]; rfl
            refine done_ (done_of HT_.out (by kernel_rfl)) ?_
            try go_wp2
            go_roundg k2
            case measure => have := HJ4.out; have := HK2.out; omega
            case rel => exact ⟨(wrap64 (x12_2 + 1)), (by first | rfl | (simp; done) | (simp [*]; done)), H', ⟨by have := HJ4.out; have := HK2.out; omega⟩, ⟨by repeat (first | (with_reducible first | exact HB.out | apply below_alloc | apply pw_below_drewN | apply below_drew1) | exact HB.out)⟩⟩
          ·rw [if_neg c12] at H
           exact absurd H (by simp)
         ·rw [if_neg c11] at H
          exact absurd H (by simp)
        ·rw [if_neg c10] at H
         exact absurd H (by simp)
       ·rw [if_neg c9] at H
        have c9b0 : decide (x12_2 < (l1.length : Int)) = false := decide_eq_false c9
        clear c9
        simp only [Option.some.injEq, Prod.mk.injEq] at H
        obtain ⟨rfl, rfl⟩ := H
        go_wp2
        go_ret2
        exact ⟨_, by first | rfl | (simp [errW_none, errW_some] <;> rfl) | (simp [*, errW_none, errW_some] <;> rfl), by first | exact Kd.R_nil _ _ _ _ _ | exact Kd.N_nil _ _ _ _ _ | exact Kd.V_nil _ _ _ _ _ | exact Kd.Q_nil _ _ _ _ _ | exact Kd.S_nil _ _ _ _ _, by repeat (first | (with_reducible first | exact HB.out | apply below_alloc | apply pw_below_drewN | apply below_drew1) | exact HB.out)⟩
    ·rw [if_neg c8] at H
     have c8b0 : ((l0.length : Int) == 1) = false := beq_eq_false_iff_ne.mpr c8
     have c8b1 : ((l0.length : Int) != 1) = true := bne_iff_ne.mpr c8
     obtain ⟨ji18, hji18⟩ : ∃ j_ : Int, (wrap64 (Int.tdiv (l0.length : Int) 2)) = j_ := ⟨_, rfl⟩
     replace H : (if 0 ≤ (ji18) then (if (ji18) ≤ (l0.length : Int) then ((tattingref7_Front.f kj4 (l0.take ((ji18) : Int).toNat) l1).bind fun t350 => ((tattingref7_Back.f kj4 (l0.drop ((ji18) : Int).toNat) l1).bind fun t354 => ((tattingref7_Split.f kj4 t350 t354).bind fun bt357 => (if 0 ≤ bt357.1 then (if bt357.1 ≤ (l1.length : Int) then ((tattingref7_Halves.f kj4 (l0.take ((ji18) : Int).toNat) (l1.take (bt357.1 : Int).toNat) a2 a3).bind fun bt361 => ((tattingref7_Halves.f kj4 (l0.drop ((ji18) : Int).toNat) (l1.drop (bt357.1 : Int).toNat) (wrap64 (a2 + (ji18))) (wrap64 (a3 + bt357.1))).bind fun bt367 => ((some (([] : List (S28)) : List (S28))).bind fun y371 => (if y371.length + bt361.1.length < 8796093022208 then ((some (y371 ++ bt361.1 : List (S28))).bind fun y374 => (if y374.length + bt367.1.length < 8796093022208 then (some ((y374 ++ bt367.1), wrap64 ((wrap64 ((wrap64 ((l0.length : Int) * (l1.length : Int))) + bt361.2)) + bt367.2))) else (none))) else (none))))) else (none)) else (none))))) else (none)) else (none)) = some (r1, r2) := by first | (rw [hji18] at H; exact H) | (simp only [hji18] at H ⊢; exact H)
     have hji18w : (IntKind.i64.wrap (Int.tdiv (l0.length : Int) 2)) = ji18 := (i64_w _).trans hji18
     have hji18e : wrap64 ((l0.length : Int) / 2) = ji18 := (by rw [← hji18, Int.tdiv_eq_ediv_of_nonneg (Int.natCast_nonneg _)])
     by_cases c19 : 0 ≤ (ji18)
     ·rw [if_pos c19] at H
      have c19b0 := eq_true c19
      have c19b1 : decide (0 ≤ (ji18)) = true := decide_eq_true c19
      clear c19
      by_cases c20 : (ji18) ≤ (l0.length : Int)
      ·rw [if_pos c20] at H
       have c20b0 := eq_true c20
       have c20b1 : decide ((ji18) ≤ (l0.length : Int)) = true := decide_eq_true c20
       clear c20
       replace H := Option.bind_eq_some_iff.mp H
       obtain ⟨t350, A210, H⟩ := H
       replace H : ((tattingref7_Back.f kj4 (l0.drop ((ji18) : Int).toNat) l1).bind fun t354 => ((tattingref7_Split.f kj4 t350 t354).bind fun bt357 => (if 0 ≤ bt357.1 then (if bt357.1 ≤ (l1.length : Int) then ((tattingref7_Halves.f kj4 (l0.take ((ji18) : Int).toNat) (l1.take (bt357.1 : Int).toNat) a2 a3).bind fun bt361 => ((tattingref7_Halves.f kj4 (l0.drop ((ji18) : Int).toNat) (l1.drop (bt357.1 : Int).toNat) (wrap64 (a2 + (ji18))) (wrap64 (a3 + bt357.1))).bind fun bt367 => ((some (([] : List (S28)) : List (S28))).bind fun y371 => (if y371.length + bt361.1.length < 8796093022208 then ((some (y371 ++ bt361.1 : List (S28))).bind fun y374 => (if y374.length + bt367.1.length < 8796093022208 then (some ((y374 ++ bt367.1), wrap64 ((wrap64 ((wrap64 ((l0.length : Int) * (l1.length : Int))) + bt361.2)) + bt367.2))) else (none))) else (none))))) else (none)) else (none)))) = some (r1, r2) := H
       have A21 := Aside0.mk A210
       clear A210
       have c22b0 := eq_true (of_decide_eq_true (by first | (with_reducible assumption) | assumption) : 0 ≤ (ji18))
       have c23b0 := eq_true (of_decide_eq_true (by first | (with_reducible assumption) | assumption) : (ji18) ≤ (l0.length : Int))
       replace H := Option.bind_eq_some_iff.mp H
       obtain ⟨t354, A240, H⟩ := H
       replace H : ((tattingref7_Split.f kj4 t350 t354).bind fun bt357 => (if 0 ≤ bt357.1 then (if bt357.1 ≤ (l1.length : Int) then ((tattingref7_Halves.f kj4 (l0.take ((ji18) : Int).toNat) (l1.take (bt357.1 : Int).toNat) a2 a3).bind fun bt361 => ((tattingref7_Halves.f kj4 (l0.drop ((ji18) : Int).toNat) (l1.drop (bt357.1 : Int).toNat) (wrap64 (a2 + (ji18))) (wrap64 (a3 + bt357.1))).bind fun bt367 => ((some (([] : List (S28)) : List (S28))).bind fun y371 => (if y371.length + bt361.1.length < 8796093022208 then ((some (y371 ++ bt361.1 : List (S28))).bind fun y374 => (if y374.length + bt367.1.length < 8796093022208 then (some ((y374 ++ bt367.1), wrap64 ((wrap64 ((wrap64 ((l0.length : Int) * (l1.length : Int))) + bt361.2)) + bt367.2))) else (none))) else (none))))) else (none)) else (none))) = some (r1, r2) := H
       have A24 := Aside0.mk A240
       clear A240
       replace H := Option.bind_eq_some_iff.mp H
       obtain ⟨⟨t357, t358⟩, A250, H⟩ := H
       replace H : (if 0 ≤ t357 then (if t357 ≤ (l1.length : Int) then ((tattingref7_Halves.f kj4 (l0.take ((ji18) : Int).toNat) (l1.take (t357 : Int).toNat) a2 a3).bind fun bt361 => ((tattingref7_Halves.f kj4 (l0.drop ((ji18) : Int).toNat) (l1.drop (t357 : Int).toNat) (wrap64 (a2 + (ji18))) (wrap64 (a3 + t357))).bind fun bt367 => ((some (([] : List (S28)) : List (S28))).bind fun y371 => (if y371.length + bt361.1.length < 8796093022208 then ((some (y371 ++ bt361.1 : List (S28))).bind fun y374 => (if y374.length + bt367.1.length < 8796093022208 then (some ((y374 ++ bt367.1), wrap64 ((wrap64 ((wrap64 ((l0.length : Int) * (l1.length : Int))) + bt361.2)) + bt367.2))) else (none))) else (none))))) else (none)) else (none)) = some (r1, r2) := H
       have A25 := Aside0.mk A250
       clear A250
       have c26b0 := eq_true (of_decide_eq_true (by first | (with_reducible assumption) | assumption) : 0 ≤ (ji18))
       have c27b0 := eq_true (of_decide_eq_true (by first | (with_reducible assumption) | assumption) : (ji18) ≤ (l0.length : Int))
       by_cases c28 : 0 ≤ t357
       ·rw [if_pos c28] at H
        have c28b0 := eq_true c28
        have c28b1 : decide (0 ≤ t357) = true := decide_eq_true c28
        clear c28
        by_cases c29 : t357 ≤ (l1.length : Int)
        ·rw [if_pos c29] at H
         have c29b0 := eq_true c29
         have c29b1 : decide (t357 ≤ (l1.length : Int)) = true := decide_eq_true c29
         clear c29
         replace H := Option.bind_eq_some_iff.mp H
         obtain ⟨⟨t361, t362⟩, A300, H⟩ := H
         replace H : ((tattingref7_Halves.f kj4 (l0.drop ((ji18) : Int).toNat) (l1.drop (t357 : Int).toNat) (wrap64 (a2 + (ji18))) (wrap64 (a3 + t357))).bind fun bt367 => ((some (([] : List (S28)) : List (S28))).bind fun y371 => (if y371.length + t361.length < 8796093022208 then ((some (y371 ++ t361 : List (S28))).bind fun y374 => (if y374.length + bt367.1.length < 8796093022208 then (some ((y374 ++ bt367.1), wrap64 ((wrap64 ((wrap64 ((l0.length : Int) * (l1.length : Int))) + t362)) + bt367.2))) else (none))) else (none)))) = some (r1, r2) := H
         have A30 := Aside0.mk A300
         clear A300
         have c31b0 := eq_true (of_decide_eq_true (by first | (with_reducible assumption) | assumption) : 0 ≤ (ji18))
         have c32b0 := eq_true (of_decide_eq_true (by first | (with_reducible assumption) | assumption) : (ji18) ≤ (l0.length : Int))
         have c33b0 := eq_true (of_decide_eq_true (by first | (with_reducible assumption) | assumption) : 0 ≤ t357)
         have c34b0 := eq_true (of_decide_eq_true (by first | (with_reducible assumption) | assumption) : t357 ≤ (l1.length : Int))
         replace H := Option.bind_eq_some_iff.mp H
         obtain ⟨⟨t367, t368⟩, A350, H⟩ := H
         replace H : ((some (([] : List (S28)) : List (S28))).bind fun y371 => (if y371.length + t361.length < 8796093022208 then ((some (y371 ++ t361 : List (S28))).bind fun y374 => (if y374.length + t367.length < 8796093022208 then (some ((y374 ++ t367), wrap64 ((wrap64 ((wrap64 ((l0.length : Int) * (l1.length : Int))) + t362)) + t368))) else (none))) else (none))) = some (r1, r2) := H
         have A35 := Aside0.mk A350
         clear A350
         obtain ⟨y371, hy371⟩ : ∃ y_ : List (S28), y_ = (([] : List (S28))) := ⟨_, rfl⟩
         replace H : (if y371.length + t361.length < 8796093022208 then ((some (y371 ++ t361 : List (S28))).bind fun y374 => (if y374.length + t367.length < 8796093022208 then (some ((y374 ++ t367), wrap64 ((wrap64 ((wrap64 ((l0.length : Int) * (l1.length : Int))) + t362)) + t368))) else (none))) else (none)) = some (r1, r2) := by first | (rw [hy371]; with_reducible exact H) | (have H2_ := (Option.bind_some _ _).symm.trans H; rw [hy371]; with_reducible exact H2_) | (have H2_ := (Option.bind_some _ _).symm.trans H; with_reducible exact H2_) | with_reducible exact H | (rw [hy371]; exact H) | exact H
         have Ny371 := Aside0.mk hy371
         clear hy371
         by_cases c36 : y371.length + t361.length < 8796093022208
         ·rw [if_pos c36] at H
          have LMc36 := Aside0.mk c36
          clear c36
          obtain ⟨y374, hy374⟩ : ∃ y_ : List (S28), y_ = (y371 ++ t361) := ⟨_, rfl⟩
          replace H : (if y374.length + t367.length < 8796093022208 then (some ((y374 ++ t367), wrap64 ((wrap64 ((wrap64 ((l0.length : Int) * (l1.length : Int))) + t362)) + t368))) else (none)) = some (r1, r2) := by first | (rw [hy374]; with_reducible exact H) | (have H2_ := (Option.bind_some _ _).symm.trans H; rw [hy374]; with_reducible exact H2_) | (have H2_ := (Option.bind_some _ _).symm.trans H; with_reducible exact H2_) | with_reducible exact H | (rw [hy374]; exact H) | exact H
          have Ny374 := Aside0.mk hy374
          clear hy374
          by_cases c37 : y374.length + t367.length < 8796093022208
          ·rw [if_pos c37] at H
           have LMc37 := Aside0.mk c37
           clear c37
           obtain ⟨y377, hy377⟩ : ∃ y_ : List (S28), y_ = (y374 ++ t367) := ⟨_, rfl⟩
           replace H : (some (y377, wrap64 ((wrap64 ((wrap64 ((l0.length : Int) * (l1.length : Int))) + t362)) + t368))) = some (r1, r2) := by first | (rw [hy377]; with_reducible exact H) | (have H2_ := (Option.bind_some _ _).symm.trans H; rw [hy377]; with_reducible exact H2_) | (have H2_ := (Option.bind_some _ _).symm.trans H; with_reducible exact H2_) | with_reducible exact H | (rw [hy377]; exact H) | exact H
           have Ny377 := Aside0.mk hy377
           clear hy377
           simp only [Option.some.injEq, Prod.mk.injEq] at H
           obtain ⟨rfl, rfl⟩ := H
           try go_wp2
           have n0_ := Aside0.mk (below_drew1 HB.out)
           clear HB
           have HB := n0_
           clear n0_
           obtain ⟨i039, hi039, _, hsz39, _⟩ := info_parts info3
           obtain ⟨hcut39, hA39, hC39⟩ := print_take_of (P := Try.prog) (Value.int .i64) 0 26 3 .i64 Try.underlying26 hi039 hsz39 A0 c0 l0 (ji18) (of_decide_eq_true (by first | (with_reducible assumption) | assumption)) (of_decide_eq_true (by first | (with_reducible assumption) | assumption)) HC0.out
           have HR349 := Aside0.mk (Kd.C_of_reads (h1 := fun _ => rfl) (hA39 _ (Kd.reads_of_C HR0.out)))
           have HC349 := Aside0.mk hC39
           clear hA39 hC39 hi039 hsz39
           obtain ⟨i040, hi040, _, hsz40, _⟩ := info_parts info3
           obtain ⟨A40, hcut40, hA40, hC40⟩ := print_drop_of (P := Try.prog) (Value.int .i64) 0 26 3 .i64 Try.underlying26 hi040 hsz40 A0 c0 l0 (ji18) (of_decide_eq_true (by first | (with_reducible assumption) | assumption)) (of_decide_eq_true (by first | (with_reducible assumption) | assumption)) HC0.out
           have HR353 := Aside0.mk (Kd.C_of_reads (h1 := fun _ => rfl) (hA40 _ (Kd.reads_of_C HR0.out)))
           have HC353 := Aside0.mk hC40
           clear hA40 hC40 hi040 hsz40
           refine start_ (n := 16) (S := fun w' => True) (ds := []) #[N,N,N,N,N,N,N,N,N,N,N,N,N,N,N,N] (by kernel_rfl) rfl rfl trivial (fun hHeld => ?_); refine with_tabW tattingref7_Halves.tab12 tattingref7_Halves.bits12 (fun HT_ HW_ => ?_)
           generalize wc.drew = w38 at HB HR349 HR353 hHeld ⊢
           refine pure_ (i := 0) (N := some 56) (v := ?_) (a' := ?_) #[Y,N,N,N,N,N,N,N,N,N,N,N,N,N,N,N] rfl rfl (any_of HT_.out (by kernel_rfl)) (fun _ _ _ h => h) (Or.inl ⟨by rfl, ?_⟩) ?_ ?_; rotate_left
           ·intro w'; go_simp; with_reducible rfl
           rotate_left
           ·simp only [Act.put, sA,sB,sC, i64_w, i32_w]; rfl
           refine pure_ (i := 1) (N := some 57) (v := ?_) (a' := ?_) #[Y,Y,N,N,N,N,N,N,N,N,N,N,N,N,N,N] rfl rfl (any_of HT_.out (by kernel_rfl)) (fun _ _ _ h => h) (Or.inl ⟨by rfl, ?_⟩) ?_ ?_; rotate_left
           ·intro w'; go_simp; with_reducible rfl
           rotate_left
           ·simp only [Act.put, sA,sB,sC, i64_w, i32_w]; rfl
           refine pure_ (i := 2) (N := some 58) (v := ?_) (a' := ?_) #[Y,Y,Y,N,N,N,N,N,N,N,N,N,N,N,N,N] rfl rfl (any_of HT_.out (by kernel_rfl)) (fun _ _ _ h => h) (Or.inl ⟨by rfl, ?_⟩) ?_ ?_; rotate_left
           ·intro w'; go_simp; with_reducible rfl
           rotate_left
           ·simp only [Act.put, sA,sB,sC, i64_w, i32_w]; rfl
           refine pure_ (i := 3) (N := some 59) (v := ?_) (a' := ?_) #[Y,Y,Y,Y,N,N,N,N,N,N,N,N,N,N,N,N] rfl rfl (any_of HT_.out (by kernel_rfl)) (fun _ _ _ h => h) (Or.inl ⟨by rfl, ?_⟩) ?_ ?_; rotate_left
           ·intro w'; go_simp; with_reducible rfl
           rotate_left
           ·simp only [Act.put, sA,sB,sC, i64_w, i32_w]; rfl
           refine pure_ (i := 5) (N := some 61) (v := ?_) (a' := ?_) #[Y,Y,Y,Y,N,Y,N,N,N,N,N,N,N,N,N,N] rfl rfl (any_of HT_.out (by kernel_rfl)) (fun _ _ _ h => h) (Or.inl ⟨by rfl, ?_⟩) ?_ ?_; rotate_left
           ·intro w'; go_simp; with_reducible rfl
           rotate_left
           ·simp only [Act.put, sA,sB,sC, i64_w, i32_w]; rfl
           refine pure_ (i := 6) (N := some 62) (v := ?_) (a' := ?_) #[Y,Y,Y,Y,N,Y,Y,N,N,N,N,N,N,N,N,N] rfl rfl (any_of HT_.out (by kernel_rfl)) (fun _ _ _ h => h) (Or.inl ⟨by rfl, ?_⟩) ?_ ?_; rotate_left
           ·intro w'; go_simp; with_reducible rfl
           rotate_left
           ·simp only [Act.put, sA,sB,sC, i64_w, i32_w]; rfl
           refine pure_ (i := 7) (N := some 63) (v := ?_) (a' := ?_) #[Y,Y,Y,Y,N,Y,Y,Y,N,N,N,N,N,N,N,N] rfl rfl (any_of HT_.out (by kernel_rfl)) (fun _ _ _ h => h) (Or.inl ⟨by rfl, ?_⟩) ?_ ?_; rotate_left
           ·intro w'; go_simp; with_reducible rfl
           rotate_left
           ·simp only [Act.put, sA,sB,sC, i64_w, i32_w]; rfl
           refine pure_ (i := 8) (N := some 64) (v := ?_) (a' := ?_) #[Y,Y,Y,Y,N,Y,Y,Y,Y,N,N,N,N,N,N,N] rfl rfl (any_of HT_.out (by kernel_rfl)) (fun _ _ _ h => h) (Or.inl ⟨by rfl, ?_⟩) ?_ ?_; rotate_left
           ·intro w'; go_simp; with_reducible rfl
           rotate_left
           ·simp only [Act.put, sA,sB,sC, i64_w, i32_w]; rfl
           refine one_ (i := 4) (N := some 60) #[Y,Y,Y,Y,Y,Y,Y,Y,Y,N,N,N,N,N,N,N] rfl rfl (one_of HT_.out (by kernel_rfl)) (by decide) (fun K hK => ?_)
           refine goes_ Try.func32 (by kernel_rfl) rfl #[.slice A0 (l0.take ((ji18) : Int).toNat).length c0, .slice A1 l1.length c1] (by rfl) rfl rfl (by (try simp only [List.map_toArray, List.map_cons, List.map_nil]); first | done | (simp only [List.length_drop, List.length_take, hji18e, Int.min_def]; rfl) | (rw [show (l0.take ((ji18) : Int).toNat).length = (ji18).toNat from (by rw [List.length_take]; have h_ : ((ji18) : Int) ≤ (l0.length : Int) := of_decide_eq_true (by first | (with_reducible assumption) | assumption); omega)] <;> rfl) | (simp only [hji18]; rfl) | (simp only [List.length_drop, List.length_take, hji18e]; rfl) | rfl | (simp only [List.length_drop, List.length_take]; rfl)) ?_
           with_reducible refine (tattingref7_Front.calls kj4 _ _ (l0.take ((ji18) : Int).toNat) _ _ l1 t350 _ ?side1 ?side2 ?side3 ?side4 A21.out).mono ?_
           (case side1 => repeat (first | exact (Kd.C_below HR349.out HB.out) | (with_reducible refine Kd.C_alloc ?_ _) | (with_reducible refine Kd.C_drewN ?_ _) | (with_reducible refine Kd.C_drew ?_)))
           (case side2 => exact HC349.out)
           (case side3 => repeat (first | exact (Kd.C_below HR1.out HB.out) | (with_reducible refine Kd.C_alloc ?_ _) | (with_reducible refine Kd.C_drewN ?_ _) | (with_reducible refine Kd.C_drew ?_)))
           (case side4 => exact HC1.out)
           rintro e w41 ⟨v351, rfl, ho0, hb⟩
           refine ⟨_, rfl, ?_⟩
           have n0_ := Aside0.mk (Kd.R_lower ho0 (below_size (by repeat (first | (with_reducible first | exact HB.out | apply below_alloc | apply pw_below_drewN | apply below_drew1) | exact HB.out))))
           have n1_ := Aside0.mk (below_step (by repeat (first | (with_reducible first | exact HB.out | apply below_alloc | apply pw_below_drewN | apply below_drew1) | exact HB.out)) hb)
           clear HB
           have HO352 := n0_
           have HB := n1_
           clear n0_ n1_
           (try clear hb)
           (try clear hb2)
           (try clear hk)
           (try clear hi)
           (try clear ho0)
           refine hK.out _ _ trivial (fun hHeld => ?_)
           clear hK K
           refine norm_ (a' := ?_) ?_ ?_
           rotate_left
           ·show Act.put _ (some 60) _ = _
            simp only [Act.put, sA,sB,sC, i64_w, i32_w]; rfl
           refine one_ (i := 9) (N := some 65) #[Y,Y,Y,Y,Y,Y,Y,Y,Y,Y,N,N,N,N,N,N] rfl rfl (one_of HT_.out (by kernel_rfl)) (by decide) (fun K hK => ?_)
           refine goes_ Try.func33 (by kernel_rfl) rfl #[.slice A40 (l0.drop ((ji18) : Int).toNat).length (c0 - (ji18).toNat), .slice A1 l1.length c1] (by rfl) rfl rfl (by (try simp only [List.map_toArray, List.map_cons, List.map_nil]); first | done | (simp only [List.length_drop, List.length_take, hji18e, Int.min_def]; rfl) | (rw [show (l0.drop ((ji18) : Int).toNat).length = (l0.length - (ji18).toNat) from List.length_drop] <;> rfl) | (simp only [hji18]; rfl) | (simp only [List.length_drop, List.length_take, hji18e]; rfl) | rfl | (simp only [List.length_drop, List.length_take]; rfl)) ?_
           with_reducible refine (tattingref7_Back.calls kj4 _ _ (l0.drop ((ji18) : Int).toNat) _ _ l1 t354 _ ?side1 ?side2 ?side3 ?side4 A24.out).mono ?_
           (case side1 => repeat (first | exact (Kd.C_below HR353.out HB.out) | (with_reducible refine Kd.C_alloc ?_ _) | (with_reducible refine Kd.C_drewN ?_ _) | (with_reducible refine Kd.C_drew ?_)))
           (case side2 => exact HC353.out)
           (case side3 => repeat (first | exact (Kd.C_below HR1.out HB.out) | (with_reducible refine Kd.C_alloc ?_ _) | (with_reducible refine Kd.C_drewN ?_ _) | (with_reducible refine Kd.C_drew ?_)))
           (case side4 => exact HC1.out)
           rintro e w42 ⟨v355, rfl, ho0, hb⟩
           refine ⟨_, rfl, ?_⟩
           have n0_ := Aside0.mk (Kd.R_elder' (by (with_reducible repeat (first | apply Kd.R_alloc | apply Kd.R_drewN | apply Kd.R_drew)); exact HO352.out) (Kd.R_base ho0) hb)
           have n1_ := Aside0.mk (Kd.R_lower (Kd.R_new' ho0 (Kd.R_lt (by (with_reducible repeat (first | apply Kd.R_alloc | apply Kd.R_drewN | apply Kd.R_drew)); exact HO352.out))) (below_size (by repeat (first | (with_reducible first | exact HB.out | apply below_alloc | apply pw_below_drewN | apply below_drew1) | exact HB.out))))
           have n2_ := Aside0.mk (below_step (by repeat (first | (with_reducible first | exact HB.out | apply below_alloc | apply pw_below_drewN | apply below_drew1) | exact HB.out)) hb)
           clear HO352
           clear HB
           have HO352 := n0_
           have HO356 := n1_
           have HB := n2_
           clear n0_ n1_ n2_
           (try clear hb)
           (try clear hb2)
           (try clear hk)
           (try clear hi)
           (try clear ho0)
           obtain ⟨Ao43, co43, eo43⟩ := Kd.R_slice HO352.out
           (first | subst eo43 | (injection eo43 with f1_ f2_ f3_; have f4_ := f1_.symm; have f5_ := f3_.symm; clear f1_ f2_ f3_; subst f4_; subst f5_))
           obtain ⟨Ao44, co44, eo44⟩ := Kd.R_slice HO356.out
           (first | subst eo44 | (injection eo44 with f1_ f2_ f3_; have f4_ := f1_.symm; have f5_ := f3_.symm; clear f1_ f2_ f3_; subst f4_; subst f5_))
           refine hK.out _ _ trivial (fun hHeld => ?_)
           clear hK K
           refine norm_ (a' := ?_) ?_ ?_
           rotate_left
           ·show Act.put _ (some 65) _ = _
            simp only [Act.put, sA,sB,sC, i64_w, i32_w]; rfl
           refine one_ (i := 10) (N := some 66) #[Y,Y,Y,Y,Y,Y,Y,Y,Y,Y,Y,N,N,N,N,N] rfl rfl (one_of HT_.out (by kernel_rfl)) (by decide) (fun K hK => ?_)
           refine goes_ Try.func31 (by kernel_rfl) rfl #[.slice Ao43 t350.length co43, .slice Ao44 t354.length co44] (by rfl) rfl rfl (by (try simp only [List.map_toArray, List.map_cons, List.map_nil]); first | done | rfl | (simp only [List.length_drop, List.length_take]; rfl)) ?_
           with_reducible refine (tattingref7_Split.calls kj4 _ _ t350 _ _ t354 t357 t358 _ ?side1 ?side2 ?side3 ?side4 A25.out).mono ?_
           (case side1 => repeat (first | exact (Kd.R_reads' HO352.out).2.2 | (with_reducible refine Kd.C_alloc ?_ _) | (with_reducible refine Kd.C_drewN ?_ _) | (with_reducible refine Kd.C_drew ?_)))
           (case side2 => exact (Kd.R_reads' HO352.out).2.1)
           (case side3 => repeat (first | exact (Kd.R_reads' HO356.out).2.2 | (with_reducible refine Kd.C_alloc ?_ _) | (with_reducible refine Kd.C_drewN ?_ _) | (with_reducible refine Kd.C_drew ?_)))
           (case side4 => exact (Kd.R_reads' HO356.out).2.1)
           rintro e w' ⟨rfl, ⟨nd, rfl⟩⟩
           refine ⟨_, rfl, ?_⟩
           refine hK.out _ _ trivial (fun hHeld => ?_)
           clear hK K
           refine norm_ (a' := ?_) ?_ ?_
           rotate_left
           ·show Act.put _ (some 66) _ = _
            simp only [Act.put, sA,sB,sC, i64_w, i32_w]; rfl
           refine pure_ (i := 11) (N := some 55) (v := ?_) (a' := ?_) #[Y,Y,Y,Y,Y,Y,Y,Y,Y,Y,Y,Y,N,N,N,N] rfl rfl (any_of HT_.out (by kernel_rfl)) (fun _ _ _ h => h) (Or.inl ⟨by rfl, ?_⟩) ?_ ?_; rotate_left
           ·intro w'; go_simp; with_reducible rfl
           rotate_left
           ·simp only [Act.put, sA,sB,sC, i64_w, i32_w]; rfl
           refine pure_ (i := 12) (N := some 67) (v := ?_) (a' := ?_) #[Y,Y,Y,Y,Y,Y,Y,Y,Y,Y,Y,Y,Y,N,N,N] rfl rfl (any_of HT_.out (by kernel_rfl)) (fun _ _ _ h => h) (Or.inl ⟨by rfl, ?_⟩) ?_ ?_; rotate_left
           ·intro w'; go_simp; with_reducible rfl
           rotate_left
           ·simp only [Act.put, sA,sB,sC, i64_w, i32_w]; rfl
           refine pure_ (i := 13) (N := some 68) (v := ?_) (a' := ?_) #[Y,Y,Y,Y,Y,Y,Y,Y,Y,Y,Y,Y,Y,Y,N,N] rfl rfl (any_of HT_.out (by kernel_rfl)) (fun _ _ _ h => h) (Or.inl ⟨by rfl, ?_⟩) ?_ ?_; rotate_left
           ·intro w'; go_simp; with_reducible rfl
           rotate_left
           ·simp only [Act.put, sA,sB,sC, i64_w, i32_w]; rfl
           refine pure_ (i := 14) (N := some 14) (v := ?_) (a' := ?_) #[Y,Y,Y,Y,Y,Y,Y,Y,Y,Y,Y,Y,Y,Y,Y,N] rfl rfl (any_of HT_.out (by kernel_rfl)) (fun _ _ _ h => h) (Or.inl ⟨by rfl, ?_⟩) ?_ ?_; rotate_left
           ·intro w'; go_simp; with_reducible rfl
           rotate_left
           ·simp only [Act.put, sA,sB,sC, i64_w, i32_w]; rfl
           refine pure_ (i := 15) (N := some 15) (v := ?_) (a' := ?_) #[Y,Y,Y,Y,Y,Y,Y,Y,Y,Y,Y,Y,Y,Y,Y,Y] rfl rfl (any_of HT_.out (by kernel_rfl)) (fun _ _ _ h => h) (Or.inl ⟨by rfl, ?_⟩) ?_ ?_; rotate_left
           ·intro w'; go_simp; with_reducible rfl
           rotate_left
           ·simp only [Act.put, sA,sB,sC, i64_w, i32_w]; rfl
           refine done_ (done_of HT_.out (by kernel_rfl)) ?_
           try go_wp2
           (try (rw [drewN_self w42]; generalize hq_ : World.drewN w42 _ = w42; have n0_ : Aside0 (Kd.R (Kd.int .i64) 3 w42 w.heap.size (fun k_ => some k_ ≠ (.slice Ao44 t354.length co44 : Value).ownBlock) (.slice Ao43 t350.length co43) t350) := ⟨by rw [← hq_]; exact (by (with_reducible repeat (first | apply Kd.R_alloc | apply Kd.R_drewN | apply Kd.R_drew)); (first | exact Kd.R_mono HO352.out (fun _ hk => hk.2) | exact HO352.out))⟩; have n1_ : Aside0 (Kd.R (Kd.int .i64) 3 w42 w.heap.size (fun k_ => some k_ ≠ (.slice Ao43 t350.length co43 : Value).ownBlock) (.slice Ao44 t354.length co44) t354) := ⟨by rw [← hq_]; exact (by (with_reducible repeat (first | apply Kd.R_alloc | apply Kd.R_drewN | apply Kd.R_drew)); (first | exact Kd.R_mono HO356.out (fun _ hk => hk.2) | exact HO356.out))⟩; have n2_ : Aside0 (Below w.heap.size w w42) := ⟨by rw [← hq_]; exact (by repeat (first | (with_reducible first | exact HB.out | apply below_alloc | apply pw_below_drewN | apply below_drew1) | exact HB.out))⟩; clear HO352 HO356 HB hq_; have HO352 := n0_; have HO356 := n1_; have HB := n2_; clear n0_ n1_ n2_))
           have n0_ := Aside0.mk (Kd.R_drew HO352.out)
           have n1_ := Aside0.mk (Kd.R_drew HO356.out)
           have n2_ := Aside0.mk (below_drew1 HB.out)
           clear HO352
           clear HO356
           clear HB
           have HO352 := n0_
           have HO356 := n1_
           have HB := n2_
           clear n0_ n1_ n2_
           obtain ⟨i046, hi046, _, hsz46, _⟩ := info_parts info3
           obtain ⟨hcut46, hA46, hC46⟩ := print_take_of (P := Try.prog) (Value.int .i64) 0 26 3 .i64 Try.underlying26 hi046 hsz46 A0 c0 l0 (ji18) (of_decide_eq_true (by first | (with_reducible assumption) | assumption)) (of_decide_eq_true (by first | (with_reducible assumption) | assumption)) HC0.out
           have HR359 := Aside0.mk (Kd.C_of_reads (h1 := fun _ => rfl) (hA46 _ (Kd.reads_of_C HR0.out)))
           have HC359 := Aside0.mk hC46
           clear hA46 hC46 hi046 hsz46
           obtain ⟨i047, hi047, _, hsz47, _⟩ := info_parts info3
           obtain ⟨hcut47, hA47, hC47⟩ := print_take_of (P := Try.prog) (Value.int .i64) 0 26 3 .i64 Try.underlying26 hi047 hsz47 A1 c1 l1 t357 (of_decide_eq_true (by first | (with_reducible assumption) | assumption)) (of_decide_eq_true (by first | (with_reducible assumption) | assumption)) HC1.out
           have HR360 := Aside0.mk (Kd.C_of_reads (h1 := fun _ => rfl) (hA47 _ (Kd.reads_of_C HR1.out)))
           have HC360 := Aside0.mk hC47
           clear hA47 hC47 hi047 hsz47
           refine start_ (n := 14) (S := fun w' => True) (ds := []) #[N,N,N,N,N,N,N,N,N,N,N,N,N,N] (by kernel_rfl) rfl rfl trivial (fun hHeld => ?_); refine with_tabW tattingref7_Halves.tab13 tattingref7_Halves.bits13 (fun HT_ HW_ => ?_)
           generalize w42.drew = w45 at HO352 HO356 HB HR359 HR360 hHeld ⊢
           refine pure_ (i := 0) (N := some 70) (v := ?_) (a' := ?_) #[Y,N,N,N,N,N,N,N,N,N,N,N,N,N] rfl rfl (any_of HT_.out (by kernel_rfl)) (fun _ _ _ h => h) (Or.inl ⟨by rfl, ?_⟩) ?_ ?_; rotate_left
           ·intro w'; go_simp; with_reducible rfl
           rotate_left
           ·simp only [Act.put, sA,sB,sC, i64_w, i32_w]; rfl
           refine pure_ (i := 1) (N := some 71) (v := ?_) (a' := ?_) #[Y,Y,N,N,N,N,N,N,N,N,N,N,N,N] rfl rfl (any_of HT_.out (by kernel_rfl)) (fun _ _ _ h => h) (Or.inl ⟨by rfl, ?_⟩) ?_ ?_; rotate_left
           ·intro w'; go_simp; with_reducible rfl
           rotate_left
           ·simp only [Act.put, sA,sB,sC, i64_w, i32_w]; rfl
           refine pure_ (i := 2) (N := some 72) (v := ?_) (a' := ?_) #[Y,Y,Y,N,N,N,N,N,N,N,N,N,N,N] rfl rfl (any_of HT_.out (by kernel_rfl)) (fun _ _ _ h => h) (Or.inl ⟨by rfl, ?_⟩) ?_ ?_; rotate_left
           ·intro w'; go_simp; with_reducible rfl
           rotate_left
           ·simp only [Act.put, sA,sB,sC, i64_w, i32_w]; rfl
           refine pure_ (i := 3) (N := some 73) (v := ?_) (a' := ?_) #[Y,Y,Y,Y,N,N,N,N,N,N,N,N,N,N] rfl rfl (any_of HT_.out (by kernel_rfl)) (fun _ _ _ h => h) (Or.inl ⟨by rfl, ?_⟩) ?_ ?_; rotate_left
           ·intro w'; go_simp; with_reducible rfl
           rotate_left
           ·simp only [Act.put, sA,sB,sC, i64_w, i32_w]; rfl
           refine pure_ (i := 4) (N := some 74) (v := ?_) (a' := ?_) #[Y,Y,Y,Y,Y,N,N,N,N,N,N,N,N,N] rfl rfl (any_of HT_.out (by kernel_rfl)) (fun _ _ _ h => h) (Or.inl ⟨by rfl, ?_⟩) ?_ ?_; rotate_left
           ·intro w'; go_simp; with_reducible rfl
           rotate_left
           ·simp only [Act.put, sA,sB,sC, i64_w, i32_w]; rfl
           refine pure_ (i := 5) (N := some 75) (v := ?_) (a' := ?_) #[Y,Y,Y,Y,Y,Y,N,N,N,N,N,N,N,N] rfl rfl (any_of HT_.out (by kernel_rfl)) (fun _ _ _ h => h) (Or.inl ⟨by rfl, ?_⟩) ?_ ?_; rotate_left
           ·intro w'; go_simp; with_reducible rfl
           rotate_left
           ·simp only [Act.put, sA,sB,sC, i64_w, i32_w]; rfl
           refine pure_ (i := 6) (N := some 76) (v := ?_) (a' := ?_) #[Y,Y,Y,Y,Y,Y,Y,N,N,N,N,N,N,N] rfl rfl (any_of HT_.out (by kernel_rfl)) (fun _ _ _ h => h) (Or.inl ⟨by rfl, ?_⟩) ?_ ?_; rotate_left
           ·intro w'; go_simp; with_reducible rfl
           rotate_left
           ·simp only [Act.put, sA,sB,sC, i64_w, i32_w]; rfl
           refine pure_ (i := 7) (N := some 77) (v := ?_) (a' := ?_) #[Y,Y,Y,Y,Y,Y,Y,Y,N,N,N,N,N,N] rfl rfl (any_of HT_.out (by kernel_rfl)) (fun _ _ _ h => h) (Or.inl ⟨by rfl, ?_⟩) ?_ ?_; rotate_left
           ·intro w'; go_simp; with_reducible rfl
           rotate_left
           ·simp only [Act.put, sA,sB,sC, i64_w, i32_w]; rfl
           refine one_ (i := 8) (N := some 78) #[Y,Y,Y,Y,Y,Y,Y,Y,Y,N,N,N,N,N] rfl rfl (one_of HT_.out (by kernel_rfl)) (by decide) (fun K hK => ?_)
           refine goes_ Try.func18 (by kernel_rfl) rfl #[.slice A0 (l0.take ((ji18) : Int).toNat).length c0, .slice A1 (l1.take (t357 : Int).toNat).length c1, .int .i64 a2, .int .i64 a3] (by rfl) rfl rfl (by (try simp only [List.map_toArray, List.map_cons, List.map_nil]); first | done | (simp only [List.length_drop, List.length_take, hji18e, Int.min_def]; rfl) | (rw [show (l0.take ((ji18) : Int).toNat).length = (ji18).toNat from (by rw [List.length_take]; have h_ : ((ji18) : Int) ≤ (l0.length : Int) := of_decide_eq_true (by first | (with_reducible assumption) | assumption); omega), show (l1.take (t357 : Int).toNat).length = t357.toNat from (by rw [List.length_take]; have h_ : (t357 : Int) ≤ (l1.length : Int) := of_decide_eq_true (by first | (with_reducible assumption) | assumption); omega)] <;> rfl) | (rw [show (l0.take ((ji18) : Int).toNat).length = (ji18).toNat from (by rw [List.length_take]; have h_ : ((ji18) : Int) ≤ (l0.length : Int) := of_decide_eq_true (by first | (with_reducible assumption) | assumption); omega)] <;> rfl) | (rw [show (l1.take (t357 : Int).toNat).length = t357.toNat from (by rw [List.length_take]; have h_ : (t357 : Int) ≤ (l1.length : Int) := of_decide_eq_true (by first | (with_reducible assumption) | assumption); omega)] <;> rfl) | (simp only [hji18]; rfl) | (simp only [List.length_drop, List.length_take, hji18e]; rfl) | rfl | (simp only [List.length_drop, List.length_take]; rfl)) ?_
           with_reducible refine (ih kj4 (by have := HJ4.out; omega) _ _ (l0.take ((ji18) : Int).toNat) _ _ (l1.take (t357 : Int).toNat) a2 a3 t361 t362 _ ?side1 ?side2 ?side3 ?side4 A30.out).mono ?_
           (case side1 => repeat (first | exact (Kd.C_below HR359.out HB.out) | (with_reducible refine Kd.C_alloc ?_ _) | (with_reducible refine Kd.C_drewN ?_ _) | (with_reducible refine Kd.C_drew ?_)))
           (case side2 => exact HC359.out)
           (case side3 => repeat (first | exact (Kd.C_below HR360.out HB.out) | (with_reducible refine Kd.C_alloc ?_ _) | (with_reducible refine Kd.C_drewN ?_ _) | (with_reducible refine Kd.C_drew ?_)))
           (case side4 => exact HC360.out)
           rintro e w48 ⟨v363, rfl, ho0, hb⟩
           refine ⟨_, rfl, ?_⟩
           have n0_ := Aside0.mk (Kd.R_below (by (with_reducible repeat (first | apply Kd.R_alloc | apply Kd.R_drewN | apply Kd.R_drew)); exact HO352.out) hb)
           have n1_ := Aside0.mk (Kd.R_below (by (with_reducible repeat (first | apply Kd.R_alloc | apply Kd.R_drewN | apply Kd.R_drew)); exact HO356.out) hb)
           have n2_ := Aside0.mk (Kd.R_lower ho0 (below_size (by repeat (first | (with_reducible first | exact HB.out | apply below_alloc | apply pw_below_drewN | apply below_drew1) | exact HB.out))))
           have n3_ := Aside0.mk (below_step (by repeat (first | (with_reducible first | exact HB.out | apply below_alloc | apply pw_below_drewN | apply below_drew1) | exact HB.out)) hb)
           clear HO352
           clear HO356
           clear HB
           have HO352 := n0_
           have HO356 := n1_
           have HO364 := n2_
           have HB := n3_
           clear n0_ n1_ n2_ n3_
           (try clear hb)
           (try clear hb2)
           (try clear hk)
           (try clear hi)
           (try clear ho0)
           refine hK.out _ _ trivial (fun hHeld => ?_)
           clear hK K
           refine norm_ (a' := ?_) ?_ ?_
           rotate_left
           ·show Act.put _ (some 78) _ = _
            simp only [Act.put, sA,sB,sC, i64_w, i32_w]; rfl
           refine pure_ (i := 9) (N := some 69) (v := ?_) (a' := ?_) #[Y,Y,Y,Y,Y,Y,Y,Y,Y,Y,N,N,N,N] rfl rfl (any_of HT_.out (by kernel_rfl)) (fun _ _ _ h => h) (Or.inl ⟨by rfl, ?_⟩) ?_ ?_; rotate_left
           ·intro w'; go_simp; with_reducible rfl
           rotate_left
           ·simp only [Act.put, sA,sB,sC, i64_w, i32_w]; rfl
           refine pure_ (i := 10) (N := some 79) (v := ?_) (a' := ?_) #[Y,Y,Y,Y,Y,Y,Y,Y,Y,Y,Y,N,N,N] rfl rfl (any_of HT_.out (by kernel_rfl)) (fun _ _ _ h => h) (Or.inl ⟨by rfl, ?_⟩) ?_ ?_; rotate_left
           ·intro w'; go_simp; with_reducible rfl
           rotate_left
           ·simp only [Act.put, sA,sB,sC, i64_w, i32_w]; rfl
           refine pure_ (i := 11) (N := some 80) (v := ?_) (a' := ?_) #[Y,Y,Y,Y,Y,Y,Y,Y,Y,Y,Y,Y,N,N] rfl rfl (any_of HT_.out (by kernel_rfl)) (fun _ _ _ h => h) (Or.inl ⟨by rfl, ?_⟩) ?_ ?_; rotate_left
           ·intro w'; go_simp; with_reducible rfl
           rotate_left
           ·simp only [Act.put, sA,sB,sC, i64_w, i32_w]; rfl
           refine pure_ (i := 12) (N := some 16) (v := ?_) (a' := ?_) #[Y,Y,Y,Y,Y,Y,Y,Y,Y,Y,Y,Y,Y,N] rfl rfl (any_of HT_.out (by kernel_rfl)) (fun _ _ _ h => h) (Or.inl ⟨by rfl, ?_⟩) ?_ ?_; rotate_left
           ·intro w'; go_simp; with_reducible rfl
           rotate_left
           ·simp only [Act.put, sA,sB,sC, i64_w, i32_w]; rfl
           refine pure_ (i := 13) (N := some 17) (v := ?_) (a' := ?_) #[Y,Y,Y,Y,Y,Y,Y,Y,Y,Y,Y,Y,Y,Y] rfl rfl (any_of HT_.out (by kernel_rfl)) (fun _ _ _ h => h) (Or.inl ⟨by rfl, ?_⟩) ?_ ?_; rotate_left
           ·intro w'; go_simp; with_reducible rfl
           rotate_left
           ·simp only [Act.put, sA,sB,sC, i64_w, i32_w]; rfl
           refine done_ (done_of HT_.out (by kernel_rfl)) ?_
           try go_wp2
           have n0_ := Aside0.mk (Kd.R_drew HO352.out)
           have n1_ := Aside0.mk (Kd.R_drew HO356.out)
           have n2_ := Aside0.mk (Kd.R_drew HO364.out)
           have n3_ := Aside0.mk (below_drew1 HB.out)
           clear HO352
           clear HO356
           clear HO364
           clear HB
           have HO352 := n0_
           have HO356 := n1_
           have HO364 := n2_
           have HB := n3_
           clear n0_ n1_ n2_ n3_
           obtain ⟨i050, hi050, _, hsz50, _⟩ := info_parts info3
           (try clear hcut40)
           obtain ⟨A50, hcut50, hA50, hC50⟩ := print_drop_of (P := Try.prog) (Value.int .i64) 0 26 3 .i64 Try.underlying26 hi050 hsz50 A0 c0 l0 (ji18) (of_decide_eq_true (by first | (with_reducible assumption) | assumption)) (of_decide_eq_true (by first | (with_reducible assumption) | assumption)) HC0.out
           have HR365 := Aside0.mk (Kd.C_of_reads (h1 := fun _ => rfl) (hA50 _ (Kd.reads_of_C HR0.out)))
           have HC365 := Aside0.mk hC50
           clear hA50 hC50 hi050 hsz50
           obtain ⟨i051, hi051, _, hsz51, _⟩ := info_parts info3
           obtain ⟨A51, hcut51, hA51, hC51⟩ := print_drop_of (P := Try.prog) (Value.int .i64) 0 26 3 .i64 Try.underlying26 hi051 hsz51 A1 c1 l1 t357 (of_decide_eq_true (by first | (with_reducible assumption) | assumption)) (of_decide_eq_true (by first | (with_reducible assumption) | assumption)) HC1.out
           have HR366 := Aside0.mk (Kd.C_of_reads (h1 := fun _ => rfl) (hA51 _ (Kd.reads_of_C HR1.out)))
           have HC366 := Aside0.mk hC51
           clear hA51 hC51 hi051 hsz51
           refine start_ (n := 18) (S := fun w' => True) (ds := []) #[N,N,N,N,N,N,N,N,N,N,N,N,N,N,N,N,N,N] (by kernel_rfl) rfl rfl trivial (fun hHeld => ?_); refine with_tabW tattingref7_Halves.tab14 tattingref7_Halves.bits14 (fun HT_ HW_ => ?_)
           generalize w48.drew = w49 at HO352 HO356 HO364 HB HR365 HR366 hHeld ⊢
           refine pure_ (i := 0) (N := some 82) (v := ?_) (a' := ?_) #[Y,N,N,N,N,N,N,N,N,N,N,N,N,N,N,N,N,N] rfl rfl (any_of HT_.out (by kernel_rfl)) (fun _ _ _ h => h) (Or.inl ⟨by rfl, ?_⟩) ?_ ?_; rotate_left
           ·intro w'; go_simp; with_reducible rfl
           rotate_left
           ·simp only [Act.put, sA,sB,sC, i64_w, i32_w]; rfl
           refine pure_ (i := 1) (N := some 83) (v := ?_) (a' := ?_) #[Y,Y,N,N,N,N,N,N,N,N,N,N,N,N,N,N,N,N] rfl rfl (any_of HT_.out (by kernel_rfl)) (fun _ _ _ h => h) (Or.inl ⟨by rfl, ?_⟩) ?_ ?_; rotate_left
           ·intro w'; go_simp; with_reducible rfl
           rotate_left
           ·simp only [Act.put, sA,sB,sC, i64_w, i32_w]; rfl
           refine pure_ (i := 2) (N := some 84) (v := ?_) (a' := ?_) #[Y,Y,Y,N,N,N,N,N,N,N,N,N,N,N,N,N,N,N] rfl rfl (any_of HT_.out (by kernel_rfl)) (fun _ _ _ h => h) (Or.inl ⟨by rfl, ?_⟩) ?_ ?_; rotate_left
           ·intro w'; go_simp; with_reducible rfl
           rotate_left
           ·simp only [Act.put, sA,sB,sC, i64_w, i32_w]; rfl
           refine pure_ (i := 3) (N := some 85) (v := ?_) (a' := ?_) #[Y,Y,Y,Y,N,N,N,N,N,N,N,N,N,N,N,N,N,N] rfl rfl (any_of HT_.out (by kernel_rfl)) (fun _ _ _ h => h) (Or.inl ⟨by rfl, ?_⟩) ?_ ?_; rotate_left
           ·intro w'; go_simp; with_reducible rfl
           rotate_left
           ·simp only [Act.put, sA,sB,sC, i64_w, i32_w]; rfl
           refine pure_ (i := 4) (N := some 86) (v := ?_) (a' := ?_) #[Y,Y,Y,Y,Y,N,N,N,N,N,N,N,N,N,N,N,N,N] rfl rfl (any_of HT_.out (by kernel_rfl)) (fun _ _ _ h => h) (Or.inl ⟨by rfl, ?_⟩) ?_ ?_; rotate_left
           ·intro w'; go_simp; with_reducible rfl
           rotate_left
           ·simp only [Act.put, sA,sB,sC, i64_w, i32_w]; rfl
           refine pure_ (i := 5) (N := some 87) (v := ?_) (a' := ?_) #[Y,Y,Y,Y,Y,Y,N,N,N,N,N,N,N,N,N,N,N,N] rfl rfl (any_of HT_.out (by kernel_rfl)) (fun _ _ _ h => h) (Or.inl ⟨by rfl, ?_⟩) ?_ ?_; rotate_left
           ·intro w'; go_simp; with_reducible rfl
           rotate_left
           ·simp only [Act.put, sA,sB,sC, i64_w, i32_w]; rfl
           refine pure_ (i := 6) (N := some 88) (v := ?_) (a' := ?_) #[Y,Y,Y,Y,Y,Y,Y,N,N,N,N,N,N,N,N,N,N,N] rfl rfl (any_of HT_.out (by kernel_rfl)) (fun _ _ _ h => h) (Or.inl ⟨by rfl, ?_⟩) ?_ ?_; rotate_left
           ·intro w'; go_simp; with_reducible rfl
           rotate_left
           ·simp only [Act.put, sA,sB,sC, i64_w, i32_w]; rfl
           refine pure_ (i := 7) (N := some 89) (v := ?_) (a' := ?_) #[Y,Y,Y,Y,Y,Y,Y,Y,N,N,N,N,N,N,N,N,N,N] rfl rfl (any_of HT_.out (by kernel_rfl)) (fun _ _ _ h => h) (Or.inl ⟨by rfl, ?_⟩) ?_ ?_; rotate_left
           ·intro w'; go_simp; with_reducible rfl
           rotate_left
           ·simp only [Act.put, sA,sB,sC, i64_w, i32_w]; rfl
           refine pure_ (i := 8) (N := some 90) (v := ?_) (a' := ?_) #[Y,Y,Y,Y,Y,Y,Y,Y,Y,N,N,N,N,N,N,N,N,N] rfl rfl (any_of HT_.out (by kernel_rfl)) (fun _ _ _ h => h) (Or.inl ⟨by rfl, ?_⟩) ?_ ?_; rotate_left
           ·intro w'; go_simp; with_reducible rfl
           rotate_left
           ·simp only [Act.put, sA,sB,sC, i64_w, i32_w]; rfl
           refine pure_ (i := 9) (N := some 91) (v := ?_) (a' := ?_) #[Y,Y,Y,Y,Y,Y,Y,Y,Y,Y,N,N,N,N,N,N,N,N] rfl rfl (any_of HT_.out (by kernel_rfl)) (fun _ _ _ h => h) (Or.inl ⟨by rfl, ?_⟩) ?_ ?_; rotate_left
           ·intro w'; go_simp; with_reducible rfl
           rotate_left
           ·simp only [Act.put, sA,sB,sC, i64_w, i32_w]; rfl
           refine pure_ (i := 10) (N := some 92) (v := ?_) (a' := ?_) #[Y,Y,Y,Y,Y,Y,Y,Y,Y,Y,Y,N,N,N,N,N,N,N] rfl rfl (any_of HT_.out (by kernel_rfl)) (fun _ _ _ h => h) (Or.inl ⟨by rfl, ?_⟩) ?_ ?_; rotate_left
           ·intro w'; go_simp; with_reducible rfl
           rotate_left
           ·simp only [Act.put, sA,sB,sC, i64_w, i32_w]; rfl
           refine pure_ (i := 11) (N := some 93) (v := ?_) (a' := ?_) #[Y,Y,Y,Y,Y,Y,Y,Y,Y,Y,Y,Y,N,N,N,N,N,N] rfl rfl (any_of HT_.out (by kernel_rfl)) (fun _ _ _ h => h) (Or.inl ⟨by rfl, ?_⟩) ?_ ?_; rotate_left
           ·intro w'; go_simp; with_reducible rfl
           rotate_left
           ·simp only [Act.put, sA,sB,sC, i64_w, i32_w]; rfl
           refine one_ (i := 12) (N := some 94) #[Y,Y,Y,Y,Y,Y,Y,Y,Y,Y,Y,Y,Y,N,N,N,N,N] rfl rfl (one_of HT_.out (by kernel_rfl)) (by decide) (fun K hK => ?_)
           refine goes_ Try.func18 (by kernel_rfl) rfl #[.slice A50 (l0.drop ((ji18) : Int).toNat).length (c0 - (ji18).toNat), .slice A51 (l1.drop (t357 : Int).toNat).length (c1 - t357.toNat), .int .i64 (wrap64 (a2 + (ji18))), .int .i64 (wrap64 (a3 + t357))] (by rfl) rfl rfl (by (try simp only [List.map_toArray, List.map_cons, List.map_nil]); first | done | (simp only [List.length_drop, List.length_take, hji18e, Int.min_def]; rfl) | (rw [show (l0.drop ((ji18) : Int).toNat).length = (l0.length - (ji18).toNat) from List.length_drop, show (l1.drop (t357 : Int).toNat).length = (l1.length - t357.toNat) from List.length_drop] <;> rfl) | (rw [show (l0.drop ((ji18) : Int).toNat).length = (l0.length - (ji18).toNat) from List.length_drop] <;> rfl) | (rw [show (l1.drop (t357 : Int).toNat).length = (l1.length - t357.toNat) from List.length_drop] <;> rfl) | (simp only [hji18]; rfl) | (simp only [List.length_drop, List.length_take, hji18e]; rfl) | rfl | (simp only [List.length_drop, List.length_take]; rfl)) ?_
           with_reducible refine (ih kj4 (by have := HJ4.out; omega) _ _ (l0.drop ((ji18) : Int).toNat) _ _ (l1.drop (t357 : Int).toNat) (wrap64 (a2 + (ji18))) (wrap64 (a3 + t357)) t367 t368 _ ?side1 ?side2 ?side3 ?side4 A35.out).mono ?_
           (case side1 => repeat (first | exact (Kd.C_below HR365.out HB.out) | (with_reducible refine Kd.C_alloc ?_ _) | (with_reducible refine Kd.C_drewN ?_ _) | (with_reducible refine Kd.C_drew ?_)))
           (case side2 => exact HC365.out)
           (case side3 => repeat (first | exact (Kd.C_below HR366.out HB.out) | (with_reducible refine Kd.C_alloc ?_ _) | (with_reducible refine Kd.C_drewN ?_ _) | (with_reducible refine Kd.C_drew ?_)))
           (case side4 => exact HC366.out)
           rintro e w52 ⟨v369, rfl, ho0, hb⟩
           refine ⟨_, rfl, ?_⟩
           have n0_ := Aside0.mk (Kd.R_below (by (with_reducible repeat (first | apply Kd.R_alloc | apply Kd.R_drewN | apply Kd.R_drew)); exact HO352.out) hb)
           have n1_ := Aside0.mk (Kd.R_below (by (with_reducible repeat (first | apply Kd.R_alloc | apply Kd.R_drewN | apply Kd.R_drew)); exact HO356.out) hb)
           have n2_ := Aside0.mk (Kd.R_elder' (by (with_reducible repeat (first | apply Kd.R_alloc | apply Kd.R_drewN | apply Kd.R_drew)); exact HO364.out) (Kd.R_base ho0) hb)
           have n3_ := Aside0.mk (Kd.R_lower (Kd.R_new' ho0 (Kd.R_lt (by (with_reducible repeat (first | apply Kd.R_alloc | apply Kd.R_drewN | apply Kd.R_drew)); exact HO364.out))) (below_size (by repeat (first | (with_reducible first | exact HB.out | apply below_alloc | apply pw_below_drewN | apply below_drew1) | exact HB.out))))
           have n4_ := Aside0.mk (below_step (by repeat (first | (with_reducible first | exact HB.out | apply below_alloc | apply pw_below_drewN | apply below_drew1) | exact HB.out)) hb)
           clear HO352
           clear HO356
           clear HO364
           clear HB
           have HO352 := n0_
           have HO356 := n1_
           have HO364 := n2_
           have HO370 := n3_
           have HB := n4_
           clear n0_ n1_ n2_ n3_ n4_
           (try clear hb)
           (try clear hb2)
           (try clear hk)
           (try clear hi)
           (try clear ho0)
           refine hK.out _ _ trivial (fun hHeld => ?_)
           clear hK K
           refine norm_ (a' := ?_) ?_ ?_
           rotate_left
           ·show Act.put _ (some 94) _ = _
            simp only [Act.put, sA,sB,sC, i64_w, i32_w]; rfl
           refine pure_ (i := 13) (N := some 81) (v := ?_) (a' := ?_) #[Y,Y,Y,Y,Y,Y,Y,Y,Y,Y,Y,Y,Y,Y,N,N,N,N] rfl rfl (any_of HT_.out (by kernel_rfl)) (fun _ _ _ h => h) (Or.inl ⟨by rfl, ?_⟩) ?_ ?_; rotate_left
           ·intro w'; go_simp; with_reducible rfl
           rotate_left
           ·simp only [Act.put, sA,sB,sC, i64_w, i32_w]; rfl
           refine pure_ (i := 14) (N := some 95) (v := ?_) (a' := ?_) #[Y,Y,Y,Y,Y,Y,Y,Y,Y,Y,Y,Y,Y,Y,Y,N,N,N] rfl rfl (any_of HT_.out (by kernel_rfl)) (fun _ _ _ h => h) (Or.inl ⟨by rfl, ?_⟩) ?_ ?_; rotate_left
           ·intro w'; go_simp; with_reducible rfl
           rotate_left
           ·simp only [Act.put, sA,sB,sC, i64_w, i32_w]; rfl
           refine pure_ (i := 15) (N := some 96) (v := ?_) (a' := ?_) #[Y,Y,Y,Y,Y,Y,Y,Y,Y,Y,Y,Y,Y,Y,Y,Y,N,N] rfl rfl (any_of HT_.out (by kernel_rfl)) (fun _ _ _ h => h) (Or.inl ⟨by rfl, ?_⟩) ?_ ?_; rotate_left
           ·intro w'; go_simp; with_reducible rfl
           rotate_left
           ·simp only [Act.put, sA,sB,sC, i64_w, i32_w]; rfl
           refine pure_ (i := 16) (N := some 18) (v := ?_) (a' := ?_) #[Y,Y,Y,Y,Y,Y,Y,Y,Y,Y,Y,Y,Y,Y,Y,Y,Y,N] rfl rfl (any_of HT_.out (by kernel_rfl)) (fun _ _ _ h => h) (Or.inl ⟨by rfl, ?_⟩) ?_ ?_; rotate_left
           ·intro w'; go_simp; with_reducible rfl
           rotate_left
           ·simp only [Act.put, sA,sB,sC, i64_w, i32_w]; rfl
           refine pure_ (i := 17) (N := some 19) (v := ?_) (a' := ?_) #[Y,Y,Y,Y,Y,Y,Y,Y,Y,Y,Y,Y,Y,Y,Y,Y,Y,Y] rfl rfl (any_of HT_.out (by kernel_rfl)) (fun _ _ _ h => h) (Or.inl ⟨by rfl, ?_⟩) ?_ ?_; rotate_left
           ·intro w'; go_simp; with_reducible rfl
           rotate_left
           ·simp only [Act.put, sA,sB,sC, i64_w, i32_w]; rfl
           refine done_ (done_of HT_.out (by kernel_rfl)) ?_
           try go_wp2_with (first | ((with_reducible refine gate_dst (N := 97) rfl ?_); refine Kd.R_lit k28 _ 28 ?hg (N := 97) ?hd (xs := ([] : List (S28))) (inner := []) (ok := fun _ => True) (okp := fun _ => True) ?hr ?hp (fun _ hk => hk) trivial (Below.refl _ _) (Nat.le_refl _) (by simp) ?_; (case hd => rfl); (case hg => rfl); (case hr => first | (go_simp; done) | (go_simp; rfl)); (case hp => exact (Reps.none _ _)); intro v372 w53 ho54 hb hg_ hnew_; (try clear hg_); (try clear hnew_); (first | rw [← Ny371.out] at ho54 | (simp only [Int.reduceToNat] at ho54; rw [← Ny371.out] at ho54)); have n0_ := Aside0.mk (Kd.R_below (by (with_reducible repeat (first | apply Kd.R_alloc | apply Kd.R_drewN | apply Kd.R_drew)); exact HO352.out) hb); have n1_ := Aside0.mk (Kd.R_below (by (with_reducible repeat (first | apply Kd.R_alloc | apply Kd.R_drewN | apply Kd.R_drew)); exact HO356.out) hb); have n2_ := Aside0.mk (Kd.R_elder' (by (with_reducible repeat (first | apply Kd.R_alloc | apply Kd.R_drewN | apply Kd.R_drew)); exact HO364.out) (Kd.R_base ho54) hb); have n3_ := Aside0.mk (Kd.R_elder' (by (with_reducible repeat (first | apply Kd.R_alloc | apply Kd.R_drewN | apply Kd.R_drew)); exact HO370.out) (Kd.R_base ho54) hb); have n4_ := Aside0.mk (Kd.R_lower (Kd.R_new' (Kd.R_new' ho54 (Kd.R_lt (by (with_reducible repeat (first | apply Kd.R_alloc | apply Kd.R_drewN | apply Kd.R_drew)); exact HO364.out))) (Kd.R_lt (by (with_reducible repeat (first | apply Kd.R_alloc | apply Kd.R_drewN | apply Kd.R_drew)); exact HO370.out))) (below_size (by repeat (first | (with_reducible first | exact HB.out | apply below_alloc | apply pw_below_drewN | apply below_drew1) | exact HB.out)))); have n5_ := Aside0.mk (below_step (by repeat (first | (with_reducible first | exact HB.out | apply below_alloc | apply pw_below_drewN | apply below_drew1) | exact HB.out)) hb); clear HO352; clear HO356; clear HO364; clear HO370; clear HB; have HO352 := n0_; have HO356 := n1_; have HO364 := n2_; have HO370 := n3_; have HO373 := n4_; have HB := n5_; clear n0_ n1_ n2_ n3_ n4_ n5_; (try clear hb); (try clear ho54); obtain ⟨Ao56, co56, eo56⟩ := Kd.R_slice HO364.out; subst eo56) | ((with_reducible refine gate_builtin (b := .append) (xs := #[.tmp 97, .tmp 98]) rfl ?_); at_builtin; refine Kd.R_append_rows k28 (w0 := w) w.heap.size rfl (.tmp 97) (.tmp 98) 22 28 (.agg #[(.int .i64 0), (.int .i64 0)]) 16 rfl Try.underlying22 info28 rfl (by decide) (by omega) v372 y371 t361 _ _ _ (fun k_ => some k_ ≠ (.slice Ao56 t361.length co56 : Value).ownBlock ∧ some k_ ≠ (v369 : Value).ownBlock) (fun _ => False) rfl rfl ?aO ?aR (fun _ _ h => h) (fun _ h => h.elim) ?aF ?aB ?aS ?aL ?_; (case aR => repeat (first | exact (Kd.R_reads' HO364.out).2.2 | (with_reducible refine Kd.C_alloc ?_ _) | (with_reducible refine Kd.C_drewN ?_ _) | (with_reducible refine Kd.C_drew ?_))); (case aB => exact (by repeat (first | (with_reducible first | exact HB.out | apply below_alloc | apply pw_below_drewN | apply below_drew1) | exact HB.out))); (case aF => exact (fun k_ hk => ⟨Kd.fresh' (Kd.R_lt (by (with_reducible repeat (first | apply Kd.R_alloc | apply Kd.R_drewN | apply Kd.R_drew)); exact HO364.out)) k_ hk, Kd.fresh' (Kd.R_lt (by (with_reducible repeat (first | apply Kd.R_alloc | apply Kd.R_drewN | apply Kd.R_drew)); exact HO370.out)) k_ hk⟩)); (case aO => exact (by (with_reducible repeat (first | apply Kd.R_alloc | apply Kd.R_drewN | apply Kd.R_drew)); exact Kd.R_mono HO373.out (fun _ hk => ⟨hk.1.2, hk.2⟩))); (case aS => exact (below_size (by repeat (first | (with_reducible first | exact HB.out | apply below_alloc | apply pw_below_drewN | apply below_drew1) | exact HB.out)))); (case aL => have := LMc36.out; omega); intro v375 w55 ho hb hg hat; rw [← Ny374.out] at ho; have n0_ := Aside0.mk (Kd.R_over' (by (with_reducible repeat (first | apply Kd.R_alloc | apply Kd.R_drewN | apply Kd.R_drew)); exact HO352.out) (Kd.R_typed (by (with_reducible repeat (first | apply Kd.R_alloc | apply Kd.R_drewN | apply Kd.R_drew)); exact HO373.out)) (by decide) hg); have n1_ := Aside0.mk (Kd.R_over' (by (with_reducible repeat (first | apply Kd.R_alloc | apply Kd.R_drewN | apply Kd.R_drew)); exact HO356.out) (Kd.R_typed (by (with_reducible repeat (first | apply Kd.R_alloc | apply Kd.R_drewN | apply Kd.R_drew)); exact HO373.out)) (by decide) hg); have n2_ := Aside0.mk (Kd.R_after (ok := (fun k_ => some k_ ≠ (v369 : Value).ownBlock)) (by (with_reducible repeat (first | apply Kd.R_alloc | apply Kd.R_drewN | apply Kd.R_drew)); exact Kd.R_mono HO364.out (fun _ hk => ⟨hk.1.2, hk.2⟩)) hg hat); have n3_ := Aside0.mk (Kd.R_after (ok := (fun k_ => some k_ ≠ (.slice Ao56 t361.length co56 : Value).ownBlock)) (by (with_reducible repeat (first | apply Kd.R_alloc | apply Kd.R_drewN | apply Kd.R_drew)); exact Kd.R_mono HO370.out (fun _ hk => ⟨hk.1.2, hk.2⟩)) hg hat); have n4_ := Aside0.mk (hb); have n5_ := Aside0.mk (ho); clear HO352; clear HO356; clear HO364; clear HO370; clear HB; clear HO373; have HO352 := n0_; have HO356 := n1_; have HO364 := n2_; have HO370 := n3_; have HB := n4_; have HO376 := n5_; clear n0_ n1_ n2_ n3_ n4_ n5_; (try clear ho); (try clear hb); (try clear hg); (try clear hat); obtain ⟨Ao58, co58, eo58⟩ := Kd.R_slice HO370.out; subst eo58) | ((with_reducible refine gate_builtin (b := .append) (xs := #[.tmp 99, .tmp 100]) rfl ?_); at_builtin; refine Kd.R_append_rows k28 (w0 := w) w.heap.size rfl (.tmp 99) (.tmp 100) 22 28 (.agg #[(.int .i64 0), (.int .i64 0)]) 16 rfl Try.underlying22 info28 rfl (by decide) (by omega) v375 y374 t367 _ _ _ (fun k_ => some k_ ≠ (.slice Ao56 t361.length co56 : Value).ownBlock ∧ some k_ ≠ (.slice Ao58 t367.length co58 : Value).ownBlock) (fun _ => False) rfl rfl ?aO ?aR (fun _ _ h => h) (fun _ h => h.elim) ?aF ?aB ?aS ?aL ?_; (case aR => repeat (first | exact (Kd.R_reads' HO370.out).2.2 | (with_reducible refine Kd.C_alloc ?_ _) | (with_reducible refine Kd.C_drewN ?_ _) | (with_reducible refine Kd.C_drew ?_))); (case aB => exact (by repeat (first | (with_reducible first | exact HB.out | apply below_alloc | apply pw_below_drewN | apply below_drew1) | exact HB.out))); (case aF => exact (fun k_ hk => ⟨Kd.fresh' (Kd.R_lt (by (with_reducible repeat (first | apply Kd.R_alloc | apply Kd.R_drewN | apply Kd.R_drew)); exact HO364.out)) k_ hk, Kd.fresh' (Kd.R_lt (by (with_reducible repeat (first | apply Kd.R_alloc | apply Kd.R_drewN | apply Kd.R_drew)); exact HO370.out)) k_ hk⟩)); (case aO => exact (by (with_reducible repeat (first | apply Kd.R_alloc | apply Kd.R_drewN | apply Kd.R_drew)); exact HO376.out)); (case aS => exact (below_size (by repeat (first | (with_reducible first | exact HB.out | apply below_alloc | apply pw_below_drewN | apply below_drew1) | exact HB.out)))); (case aL => have := LMc37.out; omega); intro v378 w57 ho hb hg hat; rw [← Ny377.out] at ho; have n0_ := Aside0.mk (Kd.R_over' (by (with_reducible repeat (first | apply Kd.R_alloc | apply Kd.R_drewN | apply Kd.R_drew)); exact HO352.out) (Kd.R_typed (by (with_reducible repeat (first | apply Kd.R_alloc | apply Kd.R_drewN | apply Kd.R_drew)); exact HO376.out)) (by decide) hg); have n1_ := Aside0.mk (Kd.R_over' (by (with_reducible repeat (first | apply Kd.R_alloc | apply Kd.R_drewN | apply Kd.R_drew)); exact HO356.out) (Kd.R_typed (by (with_reducible repeat (first | apply Kd.R_alloc | apply Kd.R_drewN | apply Kd.R_drew)); exact HO376.out)) (by decide) hg); have n2_ := Aside0.mk (Kd.R_after (ok := (fun k_ => some k_ ≠ (.slice Ao58 t367.length co58 : Value).ownBlock)) (by (with_reducible repeat (first | apply Kd.R_alloc | apply Kd.R_drewN | apply Kd.R_drew)); exact HO364.out) hg hat); have n3_ := Aside0.mk (Kd.R_after (ok := (fun k_ => some k_ ≠ (.slice Ao56 t361.length co56 : Value).ownBlock)) (by (with_reducible repeat (first | apply Kd.R_alloc | apply Kd.R_drewN | apply Kd.R_drew)); exact HO370.out) hg hat); have n4_ := Aside0.mk (hb); have n5_ := Aside0.mk (ho); clear HO352; clear HO356; clear HO364; clear HO370; clear HB; clear HO376; have HO352 := n0_; have HO356 := n1_; have HO364 := n2_; have HO370 := n3_; have HB := n4_; have HO379 := n5_; clear n0_ n1_ n2_ n3_ n4_ n5_; (try clear ho); (try clear hb); (try clear hg); (try clear hat)))
           go_ret2
           exact ⟨_, by first | rfl | (simp [errW_none, errW_some] <;> rfl) | (simp only [← hji18]; first | rfl | (simp [errW_none, errW_some] <;> rfl)) | (simp [*, errW_none, errW_some] <;> rfl), by (with_reducible repeat (first | apply Kd.R_alloc | apply Kd.R_drewN | apply Kd.R_drew)); exact Kd.R_mono HO379.out (fun _ hk => trivial), by repeat (first | (with_reducible first | exact HB.out | apply below_alloc | apply pw_below_drewN | apply below_drew1) | exact HB.out)⟩
          ·rw [if_neg c37] at H
           exact absurd H (by simp)
         ·rw [if_neg c36] at H
          exact absurd H (by simp)
        ·rw [if_neg c29] at H
         exact absurd H (by simp)
       ·rw [if_neg c28] at H
        exact absurd H (by simp)
      ·rw [if_neg c20] at H
       exact absurd H (by simp)
     ·rw [if_neg c19] at H
      exact absurd H (by simp)

end Go.Proofs.Ytdegajidkboknaa.PCanonAny
