/- What the given program's functions come to, each a Lean function and the walk that shows it: no condition beside those that each theorem names. -/
import Derived.Test.YteijoilcffhomaaPOnpDistx0
import Derived.Test.YteijoilcffhomaaPOnpDistx2
import Derived.Test.YteijoilcffhomaaPOnpDistx4
import Derived.Test.YteijoilcffhomaaPOnpDistx5
namespace Go.Proofs.Yteijoilcffhomaa.POnpDist
open Go.RowKit Go.Proofs.YteijoilcffhomaaW.PrintWords Go.Proofs.YteijoilcffhomaaW.PrintLast Go.Proofs.YteijoilcffhomaaW.PrintMore
attribute [local go_sem] max2_int min2_int max_two min_two max_three min_three max_four min_four   -- for this text's walks alone
set_option linter.unusedVariables false
set_option linter.unusedSimpArgs false

/-! ### tattingref7_Len: function 19 -/
def tattingref7_Len.f (k : Nat) (l0 : List Int) (l1 : List Int) : Option (Int) := (tattingref7_Behind.f k l0 l1).bind fun t177 => (if 0 < (t177.length : Int) then (if 0 < ((rd_L2 t177 0).length : Int) then (some (rd (rd_L2 t177 0) 0)) else (none)) else (none))
theorem tattingref7_Len.mono : ∀ a0 a1 k, LeO (tattingref7_Len.f k a0 a1) (tattingref7_Len.f (k + 1) a0 a1) := by
 intro a0 a1 k
 unfold tattingref7_Len.f
 repeat' first
   | (with_reducible exact tattingref7_Behind.mono _ _ _)
   | (with_reducible exact LeO.refl _)
   | (with_reducible exact LeO.none _)
   | (with_reducible refine LeO.ite ?_ ?_)
   | (with_reducible refine LeO.bind ?_ (fun _ => ?_))
   | exact tattingref7_Behind.mono _ _ _
   | exact LeO.none _
   | refine LeO.ite ?_ ?_
   | refine LeO.bind ?_ (fun _ => ?_)
set_option maxHeartbeats 8000000 in
set_option maxRecDepth 100000 in
theorem tattingref7_Len.calls (k : Nat) (A0 : Option Addr) (c0 : Nat) (l0 : List Int) (A1 : Option Addr) (c1 : Nat) (l1 : List Int) (r : Int) (w : World) (hr0 : Kd.C (Kd.int .i64) w A0 l0.length l0) (hc0 : l0.length ≤ c0) (hr1 : Kd.C (Kd.int .i64) w A1 l1.length l1) (hc1 : l1.length ≤ c1) (h : tattingref7_Len.f k l0 l1 = some r) :
  Calls Try.prog 19 #[.slice A0 l0.length c0, .slice A1 l1.length c1] w fun e w' => e = .returned (.int .i64 r) ∧ Below w.heap.size w w' := by
 have HR0 := Aside0.mk hr0
 have HC0 := Aside0.mk hc0
 clear hr0 hc0
 have HR1 := Aside0.mk hr1
 have HC1 := Aside0.mk hc1
 clear hr1 hc1
 have HB := Aside0.mk (Below.refl w.heap.size w)
 have H : ((tattingref7_Behind.f k l0 l1).bind fun t177 => (if 0 < (t177.length : Int) then (if 0 < ((rd_L2 t177 0).length : Int) then (some (rd (rd_L2 t177 0) 0)) else (none)) else (none))) = some r := h
 clear h
 replace H := Option.bind_eq_some_iff.mp H
 obtain ⟨t177, A30, H⟩ := H
 replace H : (if 0 < (t177.length : Int) then (if 0 < ((rd_L2 t177 0).length : Int) then (some (rd (rd_L2 t177 0) 0)) else (none)) else (none)) = some r := H
 have A3 := Aside0.mk A30
 clear A30
 by_cases c4 : 0 < (t177.length : Int)
 ·rw [if_pos c4] at H
  have c4b0 : decide (0 < (t177.length : Int)) = true := decide_eq_true c4
  have c4b1 : decide (0 < t177.length) = true := decide_eq_true (by omega)
  clear c4
  by_cases c5 : 0 < ((rd_L2 t177 0).length : Int)
  ·rw [if_pos c5] at H
   have c5b0 : decide (0 < ((rd_L2 t177 0).length : Int)) = true := decide_eq_true c5
   have c5b1 : decide (0 < (rd_L2 t177 0).length) = true := decide_eq_true (by omega)
   clear c5
   obtain rfl := Option.some.inj H
   go_enter Try.func19, Try.ntmps19
   go_wp2_with (first | ((first | (with_reducible refine gate_callee (f := 27) rfl ?_); refine goesL_ (some 7) rfl rfl Try.func27 (by kernel_rfl) rfl #[.slice A0 l0.length c0, .slice A1 l1.length c1] rfl (by (try simp only [List.map_toArray, List.map_cons, List.map_nil]); first | done | rfl | (simp only [List.length_drop, List.length_take]; rfl)) ?_ | go_at_call 27); (with_reducible refine (tattingref7_Behind.calls k _ _ l0 _ _ l1 t177 _ ?side1 ?side2 ?side3 ?side4 A3.out).mono ?_); (case side1 => repeat (first | exact HR0.out | (with_reducible refine Kd.C_alloc ?_ _) | (with_reducible refine Kd.C_drewN ?_ _) | (with_reducible refine Kd.C_drew ?_))); (case side2 => exact HC0.out); (case side3 => repeat (first | exact HR1.out | (with_reducible refine Kd.C_alloc ?_ _) | (with_reducible refine Kd.C_drewN ?_ _) | (with_reducible refine Kd.C_drew ?_))); (case side4 => exact HC1.out); rintro e w6 ⟨v178, rfl, ho0, hb⟩; (try refine ⟨_, rfl, ?_⟩); have n0_ := Aside0.mk (Kd.S_lower ho0 (below_size (by repeat (first | (with_reducible first | exact HB.out | apply below_alloc | apply pw_below_drewN | apply below_drew1) | exact HB.out)))); have n1_ := Aside0.mk (below_step (by repeat (first | (with_reducible first | exact HB.out | apply below_alloc | apply pw_below_drewN | apply below_drew1) | exact HB.out)) hb); clear HB; have HO179 := n0_; have HB := n1_; clear n0_ n1_; (try clear hb); (try clear hb2); (try clear hk); (try clear hi); (try clear ho0); obtain ⟨Ao7, co7, eo7⟩ := Kd.S_slice HO179.out; subst eo7; have p180 : 0 ≤ (0 : Int) := (by omega); have q180 : 0 < (t177.length : Int) := of_decide_eq_true (by first | (with_reducible assumption) | assumption); obtain ⟨ad180, A180_0, c180_0, e180, hx180_0, hl180_0, hi180_0⟩ := at_L2 (Kd.S_reads' HO179.out).2.2 0 p180 q180; cases e180; obtain ⟨ce180, hce180, hMe180, hcc180⟩ := Kd.S_get HO179.out [] 0 p180 (by first | exact q180 | exact of_decide_eq_true (by first | (with_reducible assumption) | assumption) | (have e_ := (Kd.S_reads' HO179.out).1; omega)); obtain ⟨ve180_0, rfl, ge180_0⟩ := hMe180; have hv180_0 := hcc180 0 _ rfl; rw [Nat.add_zero, show ((Kd.slice 3 (Kd.int .i64))).sz = 1 from rfl, Nat.mul_one] at hv180_0; replace hv180_0 := Option.some.inj (hv180_0.symm.trans hx180_0); rw [hv180_0] at ge180_0; have HL180_0 := Aside0.mk (show Kd.R (Kd.int .i64) 3 _ _ _ _ (rd_L2 t177 0) from ge180_0); clear hv180_0 ge180_0; (try clear hcc180); (try clear hce180); have qi180 : (0 < t177.length) = True := eq_true (by omega); (try rw [show ((0 : Int)).toNat = 0 from rfl] at hx180_0); (try rw [Addr.add_zero'] at hx180_0); have HR180_0 := Aside0.mk hi180_0; have HC180_0 := Aside0.mk hl180_0; (try clear hi180_0); (try clear hl180_0); replace p180 := eq_true p180; replace q180 := eq_true q180; have p181 : 0 ≤ (0 : Int) := (by omega); have q181 : 0 < ((rd_L2 t177 0).length : Int) := of_decide_eq_true (by first | (with_reducible assumption) | assumption); obtain ⟨ad181, e181, hx181_0⟩ := Kd.at_int (by repeat (first | (with_reducible exact HR180_0.out) | (with_reducible refine Kd.C_alloc ?_ _) | (with_reducible refine Kd.C_drewN ?_ _) | (with_reducible refine Kd.C_drew ?_) | exact HR180_0.out)) 0 p181 q181; cases e181; have qi181 : (0 < (rd_L2 t177 0).length) = True := eq_true (by omega); (try rw [show ((0 : Int)).toNat = 0 from rfl] at hx181_0); (try rw [Addr.add_zero'] at hx181_0); replace p181 := eq_true p181; replace q181 := eq_true q181))
   go_ret
   exact ⟨by first | rfl | (simp [errW_none, errW_some] <;> rfl) | (simp [*, errW_none, errW_some] <;> rfl), by repeat (first | (with_reducible first | exact HB.out | apply below_alloc | apply pw_below_drewN | apply below_drew1) | exact HB.out)⟩
  ·rw [if_neg c5] at H
   exact absurd H (by simp)
 ·rw [if_neg c4] at H
  exact absurd H (by simp)

/-! ### tattingref7_Dist: function 14 -/
def tattingref7_Dist.f (k : Nat) (l0 : List Int) (l1 : List Int) : Option (Int) := (tattingref7_Len.f k l0 l1).bind fun t182 => (some (wrap64 ((wrap64 ((l0.length : Int) + (l1.length : Int))) - (wrap64 (2 * t182)))))
theorem tattingref7_Dist.mono : ∀ a0 a1 k, LeO (tattingref7_Dist.f k a0 a1) (tattingref7_Dist.f (k + 1) a0 a1) := by
 intro a0 a1 k
 unfold tattingref7_Dist.f
 repeat' first
   | (with_reducible exact tattingref7_Len.mono _ _ _)
   | (with_reducible exact LeO.refl _)
   | (with_reducible exact LeO.none _)
   | (with_reducible refine LeO.ite ?_ ?_)
   | (with_reducible refine LeO.bind ?_ (fun _ => ?_))
   | exact tattingref7_Len.mono _ _ _
   | exact LeO.none _
   | refine LeO.ite ?_ ?_
   | refine LeO.bind ?_ (fun _ => ?_)
set_option maxHeartbeats 8000000 in
set_option maxRecDepth 100000 in
theorem tattingref7_Dist.calls (k : Nat) (A0 : Option Addr) (c0 : Nat) (l0 : List Int) (A1 : Option Addr) (c1 : Nat) (l1 : List Int) (r : Int) (w : World) (hr0 : Kd.C (Kd.int .i64) w A0 l0.length l0) (hc0 : l0.length ≤ c0) (hr1 : Kd.C (Kd.int .i64) w A1 l1.length l1) (hc1 : l1.length ≤ c1) (h : tattingref7_Dist.f k l0 l1 = some r) :
  Calls Try.prog 14 #[.slice A0 l0.length c0, .slice A1 l1.length c1] w fun e w' => e = .returned (.int .i64 r) ∧ Below w.heap.size w w' := by
 have HR0 := Aside0.mk hr0
 have HC0 := Aside0.mk hc0
 clear hr0 hc0
 have HR1 := Aside0.mk hr1
 have HC1 := Aside0.mk hc1
 clear hr1 hc1
 have HB := Aside0.mk (Below.refl w.heap.size w)
 have H : ((tattingref7_Len.f k l0 l1).bind fun t182 => (some (wrap64 ((wrap64 ((l0.length : Int) + (l1.length : Int))) - (wrap64 (2 * t182)))))) = some r := h
 clear h
 replace H := Option.bind_eq_some_iff.mp H
 obtain ⟨t182, A30, H⟩ := H
 replace H : (some (wrap64 ((wrap64 ((l0.length : Int) + (l1.length : Int))) - (wrap64 (2 * t182))))) = some r := H
 have A3 := Aside0.mk A30
 clear A30
 obtain rfl := Option.some.inj H
 go_enter Try.func14, Try.ntmps14
 go_wp2_with (first | ((first | (with_reducible refine gate_callee (f := 19) rfl ?_); refine goesL_ (some 12) rfl rfl Try.func19 (by kernel_rfl) rfl #[.slice A0 l0.length c0, .slice A1 l1.length c1] rfl (by (try simp only [List.map_toArray, List.map_cons, List.map_nil]); first | done | rfl | (simp only [List.length_drop, List.length_take]; rfl)) ?_ | go_at_call 19); (with_reducible refine (tattingref7_Len.calls k _ _ l0 _ _ l1 t182 _ ?side1 ?side2 ?side3 ?side4 A3.out).mono ?_); (case side1 => repeat (first | exact HR0.out | (with_reducible refine Kd.C_alloc ?_ _) | (with_reducible refine Kd.C_drewN ?_ _) | (with_reducible refine Kd.C_drew ?_))); (case side2 => exact HC0.out); (case side3 => repeat (first | exact HR1.out | (with_reducible refine Kd.C_alloc ?_ _) | (with_reducible refine Kd.C_drewN ?_ _) | (with_reducible refine Kd.C_drew ?_))); (case side4 => exact HC1.out); rintro e w4 ⟨rfl, hb⟩; (try refine ⟨_, rfl, ?_⟩); have n0_ := Aside0.mk (below_step (by repeat (first | (with_reducible first | exact HB.out | apply below_alloc | apply pw_below_drewN | apply below_drew1) | exact HB.out)) hb); clear HB; have HB := n0_; clear n0_; (try clear hb); (try clear hb2); (try clear hk); (try clear hi)))
 go_ret
 exact ⟨by first | rfl | (simp [errW_none, errW_some] <;> rfl) | (simp [*, errW_none, errW_some] <;> rfl), by repeat (first | (with_reducible first | exact HB.out | apply below_alloc | apply pw_below_drewN | apply below_drew1) | exact HB.out)⟩

/-! ### tattingref15_Apart: function 21 -/
def tattingref15_Apart.f (a0 : Int) (a1 : Int) : Option (Int) := if a0 > a1 then (some (wrap64 (a0 - a1))) else (some (wrap64 (a1 - a0)))
set_option maxHeartbeats 8000000 in
set_option maxRecDepth 100000 in
theorem tattingref15_Apart.calls (a0 : Int) (a1 : Int) (r : Int) (w : World) (h : tattingref15_Apart.f a0 a1 = some r) :
  Calls Try.prog 21 #[.int .i64 a0, .int .i64 a1] w fun e w' => e = .returned (.int .i64 r) ∧ Drawn0 w w' := by
 have H : (if a0 > a1 then (some (wrap64 (a0 - a1))) else (some (wrap64 (a1 - a0)))) = some r := h
 clear h
 by_cases c3 : a0 > a1
 ·rw [if_pos c3] at H
  have c3b0 : decide (a1 < a0) = true := decide_eq_true c3
  clear c3
  obtain rfl := Option.some.inj H
  go_enter Try.func21, Try.ntmps21
  go_wp2
  go_ret
  exact ⟨by first | rfl | (simp; done) | (simp [*]; done), by repeat (first | exact Drawn0.refl _ | apply Drawn0.step)⟩
 ·rw [if_neg c3] at H
  have c3b0 : decide (a1 < a0) = false := decide_eq_false c3
  clear c3
  obtain rfl := Option.some.inj H
  go_enter Try.func21, Try.ntmps21
  go_wp2
  go_ret
  exact ⟨by first | rfl | (simp; done) | (simp [*]; done), by repeat (first | exact Drawn0.refl _ | apply Drawn0.step)⟩

/-! ### tattingref15_MostPoints: function 15 -/
def tattingref15_MostPoints.j0 : Nat → Int → Int → Int → Bool → Option (Int)
 | 0, _, _, _, _ => none
 | k + 1, x0, x1, x2, x22 => if x22 = true then (some 0) else ((tattingref15_Apart.f x0 x1).bind fun t183 => (if x2 < t183 then (some 0) else (if x2 > (wrap64 (x0 + x1)) then (some 0) else (if (Int.tmod (wrap64 (x2 - t183)) 2) = 0 then (some (wrap64 ((wrap64 ((wrap64 (Int.tdiv (wrap64 (x2 - t183)) 2)) + 1)) * (wrap64 ((wrap64 (t183 + (wrap64 (Int.tdiv (wrap64 (x2 - t183)) 2)))) + 1))))) else (some 0)))))
def tattingref15_MostPoints.f (k : Nat) (a0 : Int) (a1 : Int) (a2 : Int) : Option (Int) := if a0 < 0 then (tattingref15_MostPoints.j0 k a0 a1 a2 true) else (if a1 < 0 then (tattingref15_MostPoints.j0 k a0 a1 a2 true) else (if a0 > 1048576 then (tattingref15_MostPoints.j0 k a0 a1 a2 true) else (tattingref15_MostPoints.j0 k a0 a1 a2 (decide (a1 > 1048576)))))
theorem tattingref15_MostPoints.mono_l : ∀ k, (∀ y0 y1 y2 y3, LeO (tattingref15_MostPoints.j0 k y0 y1 y2 y3) (tattingref15_MostPoints.j0 (k + 1) y0 y1 y2 y3))
 | 0 => fun _ _ _ _ r h => by simp [tattingref15_MostPoints.j0] at h
 | k + 1 => by
  have ih0 := tattingref15_MostPoints.mono_l k
  ·intro y0 y1 y2 y3
   unfold tattingref15_MostPoints.j0
   repeat' first
   | (with_reducible exact ih0 _ _ _ _)
   | (with_reducible exact LeO.refl _)
   | (with_reducible exact LeO.none _)
   | (with_reducible refine LeO.ite ?_ ?_)
   | (with_reducible refine LeO.bind ?_ (fun _ => ?_))
   | exact ih0 _ _ _ _
   | exact LeO.none _
   | refine LeO.ite ?_ ?_
   | refine LeO.bind ?_ (fun _ => ?_)
theorem tattingref15_MostPoints.mono : ∀ a0 a1 a2 k, LeO (tattingref15_MostPoints.f k a0 a1 a2) (tattingref15_MostPoints.f (k + 1) a0 a1 a2) := by
 intro a0 a1 a2 k
 have ih0 := tattingref15_MostPoints.mono_l k
 unfold tattingref15_MostPoints.f
 repeat' first
   | (with_reducible exact ih0 _ _ _ _)
   | (with_reducible exact LeO.refl _)
   | (with_reducible exact LeO.none _)
   | (with_reducible refine LeO.ite ?_ ?_)
   | (with_reducible refine LeO.bind ?_ (fun _ => ?_))
   | exact ih0 _ _ _ _
   | exact LeO.none _
   | refine LeO.ite ?_ ?_
   | refine LeO.bind ?_ (fun _ => ?_)
set_option maxHeartbeats 8000000 in
set_option maxRecDepth 100000 in
theorem tattingref15_MostPoints.calls (k : Nat) (a0 : Int) (a1 : Int) (a2 : Int) (r : Int) (w : World) (h : tattingref15_MostPoints.f k a0 a1 a2 = some r) :
  Calls Try.prog 15 #[.int .i64 a0, .int .i64 a1, .int .i64 a2] w fun e w' => e = .returned (.int .i64 r) ∧ Drawn0 w w' := by
 have H : (if a0 < 0 then (tattingref15_MostPoints.j0 k a0 a1 a2 true) else (if a1 < 0 then (tattingref15_MostPoints.j0 k a0 a1 a2 true) else (if a0 > 1048576 then (tattingref15_MostPoints.j0 k a0 a1 a2 true) else (tattingref15_MostPoints.j0 k a0 a1 a2 (decide (a1 > 1048576)))))) = some r := h
 clear h
 have HC4 := Aside0.mk H
 clear H
 go_enter Try.func15, Try.ntmps15
 go_upto_region 1 with (fail)
 go_cut [22] (fun v22 wc => ∃ (kq : Nat) (x22_3 : Bool), v22 = .bool x22_3 ∧ Aside0 (tattingref15_MostPoints.j0 kq a0 a1 a2 x22_3 = some r) ∧ Aside0 (kq ≤ k) ∧ Drawn0 w wc)
 case first =>
  have H := HC4.out
  clear HC4
  by_cases c5 : a0 < 0
  ·rw [if_pos c5] at H
   have c5b0 : decide (a0 < 0) = true := decide_eq_true c5
   clear c5
   (first | rw [c5b0] | (simp only [i64_w, i32_w]; rw [c5b0]) | skip)
   have H' := Aside0.mk H
   clear H
   go_wp2
   go_meet
   case rel => exact ⟨_, (true), (by first | rfl | (simp; done) | (simp [*]; done)), H', ⟨by first | omega | exact Nat.le_refl _⟩, by repeat (first | exact Drawn0.refl _ | apply Drawn0.step)⟩
  ·rw [if_neg c5] at H
   have c5b0 : decide (a0 < 0) = false := decide_eq_false c5
   clear c5
   (first | rw [c5b0] | (simp only [i64_w, i32_w]; rw [c5b0]) | skip)
   by_cases c6 : a1 < 0
   ·rw [if_pos c6] at H
    have c6b0 : decide (a1 < 0) = true := decide_eq_true c6
    clear c6
    have H' := Aside0.mk H
    clear H
    go_wp2
    go_meet
    case rel => exact ⟨_, (true), (by first | rfl | (simp; done) | (simp [*]; done)), H', ⟨by first | omega | exact Nat.le_refl _⟩, by repeat (first | exact Drawn0.refl _ | apply Drawn0.step)⟩
   ·rw [if_neg c6] at H
    have c6b0 : decide (a1 < 0) = false := decide_eq_false c6
    clear c6
    by_cases c7 : a0 > 1048576
    ·rw [if_pos c7] at H
     have c7b0 : decide (1048576 < a0) = true := decide_eq_true c7
     clear c7
     have H' := Aside0.mk H
     clear H
     go_wp2
     go_meet
     case rel => exact ⟨_, (true), (by first | rfl | (simp; done) | (simp [*]; done)), H', ⟨by first | omega | exact Nat.le_refl _⟩, by repeat (first | exact Drawn0.refl _ | apply Drawn0.step)⟩
    ·rw [if_neg c7] at H
     have c7b0 : decide (1048576 < a0) = false := decide_eq_false c7
     clear c7
     have H' := Aside0.mk H
     clear H
     go_wp2
     go_meet
     case rel => exact ⟨_, (decide (a1 > 1048576)), (by first | rfl | (simp; done) | (simp [*]; done)), H', ⟨by first | omega | exact Nat.le_refl _⟩, by repeat (first | exact Drawn0.refl _ | apply Drawn0.step)⟩
 case rest =>
  clear HC4
  try clear c1
  try clear p2
  try clear c5
  try clear c5b0
  try clear c6
  try clear c6b0
  try clear c7
  try clear c7b0
  obtain ⟨kq, x22_3, rfl, HA, HJ3, ⟨mc3, rfl⟩⟩ := hcut
  cases kq with
  | zero => exact absurd HA.out (by simp [tattingref15_MostPoints.j0])
  | succ kj3 =>
   have H := HA.out
   clear HA
   simp only [tattingref15_MostPoints.j0] at H
   by_cases c8 : x22_3 = true
   ·subst c8
    have H1 : (some 0) = some r := by rw [if_pos rfl] at H; exact H
    clear H
    have H := H1
    clear H1
    obtain rfl := Option.some.inj H
    go_wp2
    go_ret
    exact ⟨by first | rfl | (simp; done) | (simp [*]; done), by repeat (first | exact Drawn0.refl _ | apply Drawn0.step)⟩
   ·replace c8 := Bool.eq_false_iff.mpr c8
    subst c8
    have H1 : ((tattingref15_Apart.f a0 a1).bind fun t183 => (if a2 < t183 then (some 0) else (if a2 > (wrap64 (a0 + a1)) then (some 0) else (if (Int.tmod (wrap64 (a2 - t183)) 2) = 0 then (some (wrap64 ((wrap64 ((wrap64 (Int.tdiv (wrap64 (a2 - t183)) 2)) + 1)) * (wrap64 ((wrap64 (t183 + (wrap64 (Int.tdiv (wrap64 (a2 - t183)) 2)))) + 1))))) else (some 0))))) = some r := by rw [if_neg (show ¬ (false = true) by decide)] at H; exact H
    clear H
    have H := H1
    clear H1
    replace H := Option.bind_eq_some_iff.mp H
    obtain ⟨t183, A90, H⟩ := H
    replace H : (if a2 < t183 then (some 0) else (if a2 > (wrap64 (a0 + a1)) then (some 0) else (if (Int.tmod (wrap64 (a2 - t183)) 2) = 0 then (some (wrap64 ((wrap64 ((wrap64 (Int.tdiv (wrap64 (a2 - t183)) 2)) + 1)) * (wrap64 ((wrap64 (t183 + (wrap64 (Int.tdiv (wrap64 (a2 - t183)) 2)))) + 1))))) else (some 0)))) = some r := H
    have A9 := Aside0.mk A90
    clear A90
    by_cases c10 : a2 < t183
    ·rw [if_pos c10] at H
     have c10b0 : decide (a2 < t183) = true := decide_eq_true c10
     clear c10
     obtain rfl := Option.some.inj H
     go_wp2_with (first | ((first | (with_reducible refine gate_callee (f := 21) rfl ?_); refine goesL_ (some 25) rfl rfl Try.func21 (by kernel_rfl) rfl #[.int .i64 a0, .int .i64 a1] rfl (by (try simp only [List.map_toArray, List.map_cons, List.map_nil]); first | done | rfl | (simp only [List.length_drop, List.length_take]; rfl)) ?_ | go_at_call 21); (with_reducible refine (tattingref15_Apart.calls a0 a1 t183 _ A9.out).mono ?_); rintro e w' ⟨rfl, ⟨nd, rfl⟩⟩; (try refine ⟨_, rfl, ?_⟩)))
     go_ret
     exact ⟨by first | rfl | (simp; done) | (simp [*]; done), by repeat (first | exact Drawn0.refl _ | apply Drawn0.step)⟩
    ·rw [if_neg c10] at H
     have c10b0 : decide (a2 < t183) = false := decide_eq_false c10
     clear c10
     by_cases c11 : a2 > (wrap64 (a0 + a1))
     ·rw [if_pos c11] at H
      have c11b0 : decide ((wrap64 (a0 + a1)) < a2) = true := decide_eq_true c11
      clear c11
      obtain rfl := Option.some.inj H
      go_wp2_with (first | ((first | (with_reducible refine gate_callee (f := 21) rfl ?_); refine goesL_ (some 25) rfl rfl Try.func21 (by kernel_rfl) rfl #[.int .i64 a0, .int .i64 a1] rfl (by (try simp only [List.map_toArray, List.map_cons, List.map_nil]); first | done | rfl | (simp only [List.length_drop, List.length_take]; rfl)) ?_ | go_at_call 21); (with_reducible refine (tattingref15_Apart.calls a0 a1 t183 _ A9.out).mono ?_); rintro e w' ⟨rfl, ⟨nd, rfl⟩⟩; (try refine ⟨_, rfl, ?_⟩)))
      go_ret
      exact ⟨by first | rfl | (simp; done) | (simp [*]; done), by repeat (first | exact Drawn0.refl _ | apply Drawn0.step)⟩
     ·rw [if_neg c11] at H
      have c11b0 : decide ((wrap64 (a0 + a1)) < a2) = false := decide_eq_false c11
      clear c11
      by_cases c12 : (Int.tmod (wrap64 (a2 - t183)) 2) = 0
      ·rw [if_pos c12] at H
       have c12b0 : ((Int.tmod (wrap64 (a2 - t183)) 2) == 0) = true := beq_iff_eq.mpr c12
       have c12b1 : ((Int.tmod (wrap64 (a2 - t183)) 2) != 0) = false := bne_eq_false_iff_eq.mpr c12
       clear c12
       obtain rfl := Option.some.inj H
       go_wp2_with (first | ((first | (with_reducible refine gate_callee (f := 21) rfl ?_); refine goesL_ (some 25) rfl rfl Try.func21 (by kernel_rfl) rfl #[.int .i64 a0, .int .i64 a1] rfl (by (try simp only [List.map_toArray, List.map_cons, List.map_nil]); first | done | rfl | (simp only [List.length_drop, List.length_take]; rfl)) ?_ | go_at_call 21); (with_reducible refine (tattingref15_Apart.calls a0 a1 t183 _ A9.out).mono ?_); rintro e w' ⟨rfl, ⟨nd, rfl⟩⟩; (try refine ⟨_, rfl, ?_⟩)))
       go_ret
       exact ⟨by first | rfl | (simp; done) | (simp [*]; done), by repeat (first | exact Drawn0.refl _ | apply Drawn0.step)⟩
      ·rw [if_neg c12] at H
       have c12b0 : ((Int.tmod (wrap64 (a2 - t183)) 2) == 0) = false := beq_eq_false_iff_ne.mpr c12
       have c12b1 : ((Int.tmod (wrap64 (a2 - t183)) 2) != 0) = true := bne_iff_ne.mpr c12
       obtain rfl := Option.some.inj H
       go_wp2_with (first | ((first | (with_reducible refine gate_callee (f := 21) rfl ?_); refine goesL_ (some 25) rfl rfl Try.func21 (by kernel_rfl) rfl #[.int .i64 a0, .int .i64 a1] rfl (by (try simp only [List.map_toArray, List.map_cons, List.map_nil]); first | done | rfl | (simp only [List.length_drop, List.length_take]; rfl)) ?_ | go_at_call 21); (with_reducible refine (tattingref15_Apart.calls a0 a1 t183 _ A9.out).mono ?_); rintro e w' ⟨rfl, ⟨nd, rfl⟩⟩; (try refine ⟨_, rfl, ?_⟩)))
       go_ret
       exact ⟨by first | rfl | (simp; done) | (simp [*]; done), by repeat (first | exact Drawn0.refl _ | apply Drawn0.step)⟩

/-! ### tattinglaw18_OnpDist: function 4 -/
def tattinglaw18_OnpDist.j0 : Nat → List Int → List Int → Bool → Option (Bool)
 | 0, _, _, _ => none
 | k + 1, x0, x1, x16 => if x16 = true then (some true) else ((onp_Dist.f k x0 x1).bind fun bt185 => ((tattingref7_Dist.f k x0 x1).bind fun t187 => (if bt185.1 = t187 then ((tattingref15_MostPoints.f k (x0.length : Int) (x1.length : Int) bt185.1).bind fun t188 => (some (bt185.2 == t188))) else (some false))))
def tattinglaw18_OnpDist.f (k : Nat) (l0 : List Int) (l1 : List Int) : Option (Bool) := (tattinglaw18_awake.f k).bind fun t184 => (if t184 = true then (if (l0.length : Int) > 40 then (tattinglaw18_OnpDist.j0 k l0 l1 true) else (tattinglaw18_OnpDist.j0 k l0 l1 (decide ((l1.length : Int) > 40)))) else (some false))
theorem tattinglaw18_OnpDist.mono_l : ∀ k, (∀ y0 y1 y2, LeO (tattinglaw18_OnpDist.j0 k y0 y1 y2) (tattinglaw18_OnpDist.j0 (k + 1) y0 y1 y2))
 | 0 => fun _ _ _ r h => by simp [tattinglaw18_OnpDist.j0] at h
 | k + 1 => by
  have ih0 := tattinglaw18_OnpDist.mono_l k
  ·intro y0 y1 y2
   unfold tattinglaw18_OnpDist.j0
   repeat' first
   | (with_reducible exact ih0 _ _ _)
   | (with_reducible exact onp_Dist.mono _ _ _)
   | (with_reducible exact tattinglaw18_awake.mono _)
   | (with_reducible exact tattingref15_MostPoints.mono _ _ _ _)
   | (with_reducible exact tattingref7_Dist.mono _ _ _)
   | (with_reducible exact LeO.refl _)
   | (with_reducible exact LeO.none _)
   | (with_reducible refine LeO.ite ?_ ?_)
   | (with_reducible refine LeO.bind ?_ (fun _ => ?_))
   | exact ih0 _ _ _
   | exact onp_Dist.mono _ _ _
   | exact tattinglaw18_awake.mono _
   | exact tattingref15_MostPoints.mono _ _ _ _
   | exact tattingref7_Dist.mono _ _ _
   | exact LeO.none _
   | refine LeO.ite ?_ ?_
   | refine LeO.bind ?_ (fun _ => ?_)
theorem tattinglaw18_OnpDist.mono : ∀ a0 a1 k, LeO (tattinglaw18_OnpDist.f k a0 a1) (tattinglaw18_OnpDist.f (k + 1) a0 a1) := by
 intro a0 a1 k
 have ih0 := tattinglaw18_OnpDist.mono_l k
 unfold tattinglaw18_OnpDist.f
 repeat' first
   | (with_reducible exact ih0 _ _ _)
   | (with_reducible exact onp_Dist.mono _ _ _)
   | (with_reducible exact tattinglaw18_awake.mono _)
   | (with_reducible exact tattingref15_MostPoints.mono _ _ _ _)
   | (with_reducible exact tattingref7_Dist.mono _ _ _)
   | (with_reducible exact LeO.refl _)
   | (with_reducible exact LeO.none _)
   | (with_reducible refine LeO.ite ?_ ?_)
   | (with_reducible refine LeO.bind ?_ (fun _ => ?_))
   | exact ih0 _ _ _
   | exact onp_Dist.mono _ _ _
   | exact tattinglaw18_awake.mono _
   | exact tattingref15_MostPoints.mono _ _ _ _
   | exact tattingref7_Dist.mono _ _ _
   | exact LeO.none _
   | refine LeO.ite ?_ ?_
   | refine LeO.bind ?_ (fun _ => ?_)
set_option maxHeartbeats 8000000 in
set_option maxRecDepth 100000 in
theorem tattinglaw18_OnpDist.calls (k : Nat) (A0 : Option Addr) (c0 : Nat) (l0 : List Int) (A1 : Option Addr) (c1 : Nat) (l1 : List Int) (r : Bool) (w : World) (hr0 : Kd.C (Kd.int .i64) w A0 l0.length l0) (hc0 : l0.length ≤ c0) (hr1 : Kd.C (Kd.int .i64) w A1 l1.length l1) (hc1 : l1.length ≤ c1) (h : tattinglaw18_OnpDist.f k l0 l1 = some r) (hr_ : r = true) :
  Calls Try.prog 4 #[.slice A0 l0.length c0, .slice A1 l1.length c1] w fun e w' => e = .returned (.bool r) ∧ Below w.heap.size w w' := by
 have HR0 := Aside0.mk hr0
 have HC0 := Aside0.mk hc0
 clear hr0 hc0
 have HR1 := Aside0.mk hr1
 have HC1 := Aside0.mk hc1
 clear hr1 hc1
 have HB := Aside0.mk (Below.refl w.heap.size w)
 have H : ((tattinglaw18_awake.f k).bind fun t184 => (if t184 = true then (if (l0.length : Int) > 40 then (tattinglaw18_OnpDist.j0 k l0 l1 true) else (tattinglaw18_OnpDist.j0 k l0 l1 (decide ((l1.length : Int) > 40)))) else (some false))) = some r := h
 clear h
 replace H := Option.bind_eq_some_iff.mp H
 obtain ⟨t184, A30, H⟩ := H
 replace H : (if t184 = true then (if (l0.length : Int) > 40 then (tattinglaw18_OnpDist.j0 k l0 l1 true) else (tattinglaw18_OnpDist.j0 k l0 l1 (decide ((l1.length : Int) > 40)))) else (some false)) = some r := H
 have A3 := Aside0.mk A30
 clear A30
 by_cases c4 : t184 = true
 ·subst c4
  have H1 : (if (l0.length : Int) > 40 then (tattinglaw18_OnpDist.j0 k l0 l1 true) else (tattinglaw18_OnpDist.j0 k l0 l1 (decide ((l1.length : Int) > 40)))) = some r := by rw [if_pos rfl] at H; exact H
  clear H
  have H := H1
  clear H1
  have HC5 := Aside0.mk H
  clear H
  go_enter Try.func4, Try.ntmps4
  go_upto_region 3 with (first | ((first | (with_reducible refine gate_callee (f := 11) rfl ?_); refine goesL_ (some 7) rfl rfl Try.func11 (by kernel_rfl) rfl #[] rfl (by (try simp only [List.map_toArray, List.map_cons, List.map_nil]); first | done | rfl | (simp only [List.length_drop, List.length_take]; rfl)) ?_ | go_at_call 11); (with_reducible refine (tattinglaw18_awake.calls k  true _ A3.out rfl).mono ?_); rintro e w6 ⟨rfl, hb⟩; (try refine ⟨_, rfl, ?_⟩); have n0_ := Aside0.mk (below_step (by repeat (first | (with_reducible first | exact HB.out | apply below_alloc | apply pw_below_drewN | apply below_drew1) | exact HB.out)) hb); clear HB; have HB := n0_; clear n0_; (try clear hb); (try clear hb2); (try clear hk); (try clear hi)))
  (try simp only [Act.put, sA,sB,sC])
  go_cut [16] (fun v16 wc => ∃ (kq : Nat) (x16_4 : Bool), v16 = .bool x16_4 ∧ Aside0 (tattinglaw18_OnpDist.j0 kq l0 l1 x16_4 = some r) ∧ Aside0 (kq ≤ k) ∧ Aside0 (Below w.heap.size w wc))
  case first =>
   have H := HC5.out
   clear HC5
   by_cases c7 : (l0.length : Int) > 40
   ·rw [if_pos c7] at H
    have c7b0 : decide (40 < (l0.length : Int)) = true := decide_eq_true c7
    have c7b1 : decide (40 < l0.length) = true := decide_eq_true (by omega)
    clear c7
    (first | rw [c7b0] | (simp only [i64_w, i32_w]; rw [c7b0]) | skip)
    have H' := Aside0.mk H
    clear H
    go_wp2
    go_meet
    case rel => exact ⟨_, (true), (by first | rfl | (simp; done) | (simp [*]; done)), H', ⟨by first | omega | exact Nat.le_refl _⟩, ⟨by repeat (first | (with_reducible first | exact HB.out | apply below_alloc | apply pw_below_drewN | apply below_drew1) | exact HB.out)⟩⟩
   ·rw [if_neg c7] at H
    have c7b0 : decide (40 < (l0.length : Int)) = false := decide_eq_false c7
    have c7b1 : decide (40 < l0.length) = false := decide_eq_false (by omega)
    clear c7
    (first | rw [c7b0] | (simp only [i64_w, i32_w]; rw [c7b0]) | skip)
    have H' := Aside0.mk H
    clear H
    go_wp2
    go_meet
    case rel => exact ⟨_, (decide ((l1.length : Int) > 40)), (by first | rfl | (simp; done) | (simp [*]; done)), H', ⟨by first | omega | exact Nat.le_refl _⟩, ⟨by repeat (first | (with_reducible first | exact HB.out | apply below_alloc | apply pw_below_drewN | apply below_drew1) | exact HB.out)⟩⟩
  case rest =>
   clear HC5
   try clear c1
   try clear p2
   try clear c4
   try clear c7
   try clear c7b0
   try clear c7b1
   obtain ⟨kq, x16_4, rfl, HA, HJ4, HB⟩ := hcut
   cases kq with
   | zero => exact absurd HA.out (by simp [tattinglaw18_OnpDist.j0])
   | succ kj4 =>
    have H := HA.out
    clear HA
    simp only [tattinglaw18_OnpDist.j0] at H
    by_cases c8 : x16_4 = true
    ·subst c8
     have H1 : (some true) = some r := by rw [if_pos rfl] at H; exact H
     clear H
     have H := H1
     clear H1
     obtain rfl := Option.some.inj H
     go_wp2
     go_ret
     exact ⟨by first | rfl | (simp [errW_none, errW_some] <;> rfl) | (simp [*, errW_none, errW_some] <;> rfl), by repeat (first | (with_reducible first | exact HB.out | apply below_alloc | apply pw_below_drewN | apply below_drew1) | exact HB.out)⟩
    ·replace c8 := Bool.eq_false_iff.mpr c8
     subst c8
     have H1 : ((onp_Dist.f kj4 l0 l1).bind fun bt185 => ((tattingref7_Dist.f kj4 l0 l1).bind fun t187 => (if bt185.1 = t187 then ((tattingref15_MostPoints.f kj4 (l0.length : Int) (l1.length : Int) bt185.1).bind fun t188 => (some (bt185.2 == t188))) else (some false)))) = some r := by rw [if_neg (show ¬ (false = true) by decide)] at H; exact H
     clear H
     have H := H1
     clear H1
     replace H := Option.bind_eq_some_iff.mp H
     obtain ⟨⟨t185, t186⟩, A90, H⟩ := H
     replace H : ((tattingref7_Dist.f kj4 l0 l1).bind fun t187 => (if t185 = t187 then ((tattingref15_MostPoints.f kj4 (l0.length : Int) (l1.length : Int) t185).bind fun t188 => (some (t186 == t188))) else (some false))) = some r := H
     have A9 := Aside0.mk A90
     clear A90
     replace H := Option.bind_eq_some_iff.mp H
     obtain ⟨t187, A100, H⟩ := H
     replace H : (if t185 = t187 then ((tattingref15_MostPoints.f kj4 (l0.length : Int) (l1.length : Int) t185).bind fun t188 => (some (t186 == t188))) else (some false)) = some r := H
     have A10 := Aside0.mk A100
     clear A100
     by_cases c11 : t185 = t187
     ·rw [if_pos c11] at H
      have c11b0 : (t185 == t187) = true := beq_iff_eq.mpr c11
      have c11b1 : (t185 != t187) = false := bne_eq_false_iff_eq.mpr c11
      clear c11
      replace H := Option.bind_eq_some_iff.mp H
      obtain ⟨t188, A120, H⟩ := H
      replace H : (some (t186 == t188)) = some r := H
      have A12 := Aside0.mk A120
      clear A120
      obtain rfl := Option.some.inj H
      go_wp2_with (first | ((first | (with_reducible refine gate_callee (f := 9) rfl ?_); refine goesL_ (some 20) rfl rfl Try.func9 (by kernel_rfl) rfl #[.slice A0 l0.length c0, .slice A1 l1.length c1] rfl (by (try simp only [List.map_toArray, List.map_cons, List.map_nil]); first | done | rfl | (simp only [List.length_drop, List.length_take]; rfl)) ?_ | go_at_call 9); (with_reducible refine (onp_Dist.calls kj4 _ _ l0 _ _ l1 t185 t186 _ ?side1 ?side2 ?side3 ?side4 A9.out).mono ?_); (case side1 => repeat (first | exact (Kd.C_below HR0.out HB.out) | (with_reducible refine Kd.C_alloc ?_ _) | (with_reducible refine Kd.C_drewN ?_ _) | (with_reducible refine Kd.C_drew ?_))); (case side2 => exact HC0.out); (case side3 => repeat (first | exact (Kd.C_below HR1.out HB.out) | (with_reducible refine Kd.C_alloc ?_ _) | (with_reducible refine Kd.C_drewN ?_ _) | (with_reducible refine Kd.C_drew ?_))); (case side4 => exact HC1.out); rintro e w13 ⟨rfl, hb⟩; (try refine ⟨_, rfl, ?_⟩); have n0_ := Aside0.mk (below_step (by repeat (first | (with_reducible first | exact HB.out | apply below_alloc | apply pw_below_drewN | apply below_drew1) | exact HB.out)) hb); clear HB; have HB := n0_; clear n0_; (try clear hb); (try clear hb2); (try clear hk); (try clear hi)) | ((first | (with_reducible refine gate_callee (f := 14) rfl ?_); refine goesL_ (some 26) rfl rfl Try.func14 (by kernel_rfl) rfl #[.slice A0 l0.length c0, .slice A1 l1.length c1] rfl (by (try simp only [List.map_toArray, List.map_cons, List.map_nil]); first | done | rfl | (simp only [List.length_drop, List.length_take]; rfl)) ?_ | go_at_call 14); (with_reducible refine (tattingref7_Dist.calls kj4 _ _ l0 _ _ l1 t187 _ ?side1 ?side2 ?side3 ?side4 A10.out).mono ?_); (case side1 => repeat (first | exact (Kd.C_below HR0.out HB.out) | (with_reducible refine Kd.C_alloc ?_ _) | (with_reducible refine Kd.C_drewN ?_ _) | (with_reducible refine Kd.C_drew ?_))); (case side2 => exact HC0.out); (case side3 => repeat (first | exact (Kd.C_below HR1.out HB.out) | (with_reducible refine Kd.C_alloc ?_ _) | (with_reducible refine Kd.C_drewN ?_ _) | (with_reducible refine Kd.C_drew ?_))); (case side4 => exact HC1.out); rintro e w14 ⟨rfl, hb⟩; (try refine ⟨_, rfl, ?_⟩); have n0_ := Aside0.mk (below_step (by repeat (first | (with_reducible first | exact HB.out | apply below_alloc | apply pw_below_drewN | apply below_drew1) | exact HB.out)) hb); clear HB; have HB := n0_; clear n0_; (try clear hb); (try clear hb2); (try clear hk); (try clear hi)) | (go_at_call 15; (with_reducible refine (tattingref15_MostPoints.calls kj4 (l0.length : Int) (l1.length : Int) t185 t188 _ A12.out).mono ?_); rintro e w' ⟨rfl, ⟨nd, rfl⟩⟩))
      go_ret
      exact ⟨by first | rfl | (simp [errW_none, errW_some] <;> rfl) | (simp [*, errW_none, errW_some] <;> rfl), by repeat (first | (with_reducible first | exact HB.out | apply below_alloc | apply pw_below_drewN | apply below_drew1) | exact HB.out)⟩
     ·rw [if_neg c11] at H
      have c11b0 : (t185 == t187) = false := beq_eq_false_iff_ne.mpr c11
      have c11b1 : (t185 != t187) = true := bne_iff_ne.mpr c11
      exact absurd (Option.some.inj H) (by rw [hr_]; decide)
 ·replace c4 := Bool.eq_false_iff.mpr c4
  subst c4
  have H1 : (some false) = some r := by rw [if_neg (show ¬ (false = true) by decide)] at H; exact H
  clear H
  have H := H1
  clear H1
  exact absurd (Option.some.inj H) (by rw [hr_]; decide)

/-- THE ONE PURE STATEMENT of tattinglaw18_OnpDist: yours. -/
def tattinglaw18_OnpDist.Pure : Prop := ∀ (l0 : List Int) (l1 : List Int), l0.length ≤ maxLen → l0.length * 8 ≤ 140737488351232 → (∀ x ∈ l0, (Lit.int .i64 x).wf = true) → l1.length ≤ maxLen → l1.length * 8 ≤ 140737488351232 → (∀ x ∈ l1, (Lit.int .i64 x).wf = true) → ∃ k, tattinglaw18_OnpDist.f k l0 l1 = some true
theorem tattinglaw18_OnpDist.walk (P : tattinglaw18_OnpDist.Pure) (a0 : Option Addr) (len0 cap0 : Nat) (z0 : List Int) (a1 : Option Addr) (len1 cap1 : Nat) (z1 : List Int) (w : World) (w0 : (a0 = none ∧ len0 = 0 ∧ cap0 = 0 ∧ z0 = []) ∨ ∃ x, a0 = some x ∧ len0 ≤ cap0 ∧ cap0 ≤ maxLen ∧ z0.length = cap0 ∧ (∀ i, i < z0.length → w.cell? (x.add i) = some (.int .i64 (z0.getD i 0))) ∧ ∀ n ∈ z0, (Lit.int .i64 n).wf = true) (y0 : len0 * 8 ≤ 140737488351232) (w1 : (a1 = none ∧ len1 = 0 ∧ cap1 = 0 ∧ z1 = []) ∨ ∃ x, a1 = some x ∧ len1 ≤ cap1 ∧ cap1 ≤ maxLen ∧ z1.length = cap1 ∧ (∀ i, i < z1.length → w.cell? (x.add i) = some (.int .i64 (z1.getD i 0))) ∧ ∀ n ∈ z1, (Lit.int .i64 n).wf = true) (y1 : len1 * 8 ≤ 140737488351232) :
  Calls Try.prog 4 #[.slice a0 len0 cap0, .slice a1 len1 cap1] w fun e w' => e = .returned (.bool true) ∧ Below w.heap.size w w' := by
 obtain ⟨l0, rfl, hr0, hm0, hw0, hc0⟩ := ReadsInt.ofRowC w0
 obtain ⟨l1, rfl, hr1, hm1, hw1, hc1⟩ := ReadsInt.ofRowC w1
 obtain ⟨k, h⟩ := P l0 l1 hm0 y0 hw0 hm1 y1 hw1
 refine (tattinglaw18_OnpDist.calls k _ _ l0 _ _ l1 true w (Kd.C_of_reads (d := (0 : Int)) (h1 := fun _ => rfl) hr0) hc0 (Kd.C_of_reads (d := (0 : Int)) (h1 := fun _ => rfl) hr1) hc1 h rfl).mono ?_
 rintro e w' ⟨rfl, hd⟩
 exact ⟨rfl, hd⟩

end Go.Proofs.Yteijoilcffhomaa.POnpDist
