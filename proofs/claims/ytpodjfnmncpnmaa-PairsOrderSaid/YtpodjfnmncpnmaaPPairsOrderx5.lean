/- What the given program's functions come to, each a Lean function and the walk that shows it: no condition beside those that each theorem names. -/
import Derived.Test.YtpodjfnmncpnmaaPPairsOrderx0
import Derived.Test.YtpodjfnmncpnmaaPPairsOrderx4
namespace Go.Proofs.Ytpodjfnmncpnmaa.PPairsOrder
open Go.RowKit Go.Proofs.YtpodjfnmncpnmaaW.PrintWords Go.Proofs.YtpodjfnmncpnmaaW.PrintLast Go.Proofs.YtpodjfnmncpnmaaW.PrintMore
attribute [local go_sem] max2_int min2_int max_two min_two max_three min_three max_four min_four   -- for this text's walks alone
set_option linter.unusedVariables false
set_option linter.unusedSimpArgs false

/-! ### tattinglaw7_PairsOrder: function 6 -/
mutual
def tattinglaw7_PairsOrder.j0 : Nat → List (S24) → List (S24) → List (S24) → Bool → Option (Bool)
 | 0, _, _, _, _ => none
 | k + 1, x0, x1, x2, x25 => if x25 = true then (some true) else ((pairs_Less.f k x0 x1).bind fun t172 => ((pairs_Less.f k x1 x0).bind fun t173 => ((tattingref1_SamePairs.f k x0 x1).bind fun t174 => (if t172 = true then (if t173 = true then (tattinglaw7_PairsOrder.j1 k x0 x1 x2 false) else (if t174 = true then (tattinglaw7_PairsOrder.j1 k x0 x1 x2 false) else (tattinglaw7_PairsOrder.j1 k x0 x1 x2 true))) else (if t173 = true then (if t174 = true then (tattinglaw7_PairsOrder.j1 k x0 x1 x2 false) else (tattinglaw7_PairsOrder.j1 k x0 x1 x2 true)) else (tattinglaw7_PairsOrder.j1 k x0 x1 x2 t174))))))
def tattinglaw7_PairsOrder.j1 : Nat → List (S24) → List (S24) → List (S24) → Bool → Option (Bool)
 | 0, _, _, _, _ => none
 | k + 1, x0, x1, x2, x10 => if x10 = true then ((pairs_Less.f k x0 x0).bind fun t175 => (if t175 = true then (some false) else ((pairs_Less.f k x0 x1).bind fun t176 => (if t176 = true then ((pairs_Less.f k x1 x2).bind fun t177 => (if t177 = true then ((pairs_Less.f k x0 x2).bind fun t178 => (some t178)) else (some true))) else (some true))))) else (some false)
end
def tattinglaw7_PairsOrder.f (k : Nat) (l0 : List (S24)) (l1 : List (S24)) (l2 : List (S24)) : Option (Bool) := (tattinglaw7_awake.f k).bind fun t171 => (if t171 = true then (if (l0.length : Int) > 20 then (tattinglaw7_PairsOrder.j0 k l0 l1 l2 true) else (if (l1.length : Int) > 20 then (tattinglaw7_PairsOrder.j0 k l0 l1 l2 true) else (tattinglaw7_PairsOrder.j0 k l0 l1 l2 (decide ((l2.length : Int) > 20))))) else (some false))
theorem tattinglaw7_PairsOrder.mono_l : ∀ k, (∀ y0 y1 y2 y3, LeO (tattinglaw7_PairsOrder.j0 k y0 y1 y2 y3) (tattinglaw7_PairsOrder.j0 (k + 1) y0 y1 y2 y3)) ∧ (∀ y0 y1 y2 y3, LeO (tattinglaw7_PairsOrder.j1 k y0 y1 y2 y3) (tattinglaw7_PairsOrder.j1 (k + 1) y0 y1 y2 y3))
 | 0 => ⟨fun _ _ _ _ r h => by simp [tattinglaw7_PairsOrder.j0] at h, fun _ _ _ _ r h => by simp [tattinglaw7_PairsOrder.j1] at h⟩
 | k + 1 => by
  obtain ⟨ih0, ih1⟩ := tattinglaw7_PairsOrder.mono_l k
  refine ⟨?_, ?_⟩
  ·intro y0 y1 y2 y3
   unfold tattinglaw7_PairsOrder.j0
   repeat' first
   | (with_reducible exact ih0 _ _ _ _)
   | (with_reducible exact ih1 _ _ _ _)
   | (with_reducible exact pairs_Less.mono _ _ _)
   | (with_reducible exact tattinglaw7_awake.mono _)
   | (with_reducible exact tattingref1_SamePairs.mono _ _ _)
   | (with_reducible exact LeO.refl _)
   | (with_reducible exact LeO.none _)
   | (with_reducible refine LeO.ite ?_ ?_)
   | (with_reducible refine LeO.bind ?_ (fun _ => ?_))
   | exact ih0 _ _ _ _
   | exact ih1 _ _ _ _
   | exact pairs_Less.mono _ _ _
   | exact tattinglaw7_awake.mono _
   | exact tattingref1_SamePairs.mono _ _ _
   | exact LeO.none _
   | refine LeO.ite ?_ ?_
   | refine LeO.bind ?_ (fun _ => ?_)
  ·intro y0 y1 y2 y3
   unfold tattinglaw7_PairsOrder.j1
   repeat' first
   | (with_reducible exact ih0 _ _ _ _)
   | (with_reducible exact ih1 _ _ _ _)
   | (with_reducible exact pairs_Less.mono _ _ _)
   | (with_reducible exact tattinglaw7_awake.mono _)
   | (with_reducible exact tattingref1_SamePairs.mono _ _ _)
   | (with_reducible exact LeO.refl _)
   | (with_reducible exact LeO.none _)
   | (with_reducible refine LeO.ite ?_ ?_)
   | (with_reducible refine LeO.bind ?_ (fun _ => ?_))
   | exact ih0 _ _ _ _
   | exact ih1 _ _ _ _
   | exact pairs_Less.mono _ _ _
   | exact tattinglaw7_awake.mono _
   | exact tattingref1_SamePairs.mono _ _ _
   | exact LeO.none _
   | refine LeO.ite ?_ ?_
   | refine LeO.bind ?_ (fun _ => ?_)
theorem tattinglaw7_PairsOrder.mono : ∀ a0 a1 a2 k, LeO (tattinglaw7_PairsOrder.f k a0 a1 a2) (tattinglaw7_PairsOrder.f (k + 1) a0 a1 a2) := by
 intro a0 a1 a2 k
 obtain ⟨ih0, ih1⟩ := tattinglaw7_PairsOrder.mono_l k
 unfold tattinglaw7_PairsOrder.f
 repeat' first
   | (with_reducible exact ih0 _ _ _ _)
   | (with_reducible exact ih1 _ _ _ _)
   | (with_reducible exact pairs_Less.mono _ _ _)
   | (with_reducible exact tattinglaw7_awake.mono _)
   | (with_reducible exact tattingref1_SamePairs.mono _ _ _)
   | (with_reducible exact LeO.refl _)
   | (with_reducible exact LeO.none _)
   | (with_reducible refine LeO.ite ?_ ?_)
   | (with_reducible refine LeO.bind ?_ (fun _ => ?_))
   | exact ih0 _ _ _ _
   | exact ih1 _ _ _ _
   | exact pairs_Less.mono _ _ _
   | exact tattinglaw7_awake.mono _
   | exact tattingref1_SamePairs.mono _ _ _
   | exact LeO.none _
   | refine LeO.ite ?_ ?_
   | refine LeO.bind ?_ (fun _ => ?_)
set_option maxHeartbeats 8000000 in
set_option maxRecDepth 100000 in
theorem tattinglaw7_PairsOrder.calls (k : Nat) (A0 : Option Addr) (c0 : Nat) (l0 : List (S24)) (A1 : Option Addr) (c1 : Nat) (l1 : List (S24)) (A2 : Option Addr) (c2 : Nat) (l2 : List (S24)) (r : Bool) (w : World) (hr0 : Kd.C k24 w A0 l0.length l0) (hc0 : l0.length ≤ c0) (hr1 : Kd.C k24 w A1 l1.length l1) (hc1 : l1.length ≤ c1) (hr2 : Kd.C k24 w A2 l2.length l2) (hc2 : l2.length ≤ c2) (h : tattinglaw7_PairsOrder.f k l0 l1 l2 = some r) (hr_ : r = true) :
  Calls Try.prog 6 #[.slice A0 l0.length c0, .slice A1 l1.length c1, .slice A2 l2.length c2] w fun e w' => e = .returned (.bool r) ∧ Below w.heap.size w w' := by
 have HR0 := Aside0.mk hr0
 have HC0 := Aside0.mk hc0
 clear hr0 hc0
 have HR1 := Aside0.mk hr1
 have HC1 := Aside0.mk hc1
 clear hr1 hc1
 have HR2 := Aside0.mk hr2
 have HC2 := Aside0.mk hc2
 clear hr2 hc2
 have HB := Aside0.mk (Below.refl w.heap.size w)
 have H : ((tattinglaw7_awake.f k).bind fun t171 => (if t171 = true then (if (l0.length : Int) > 20 then (tattinglaw7_PairsOrder.j0 k l0 l1 l2 true) else (if (l1.length : Int) > 20 then (tattinglaw7_PairsOrder.j0 k l0 l1 l2 true) else (tattinglaw7_PairsOrder.j0 k l0 l1 l2 (decide ((l2.length : Int) > 20))))) else (some false))) = some r := h
 clear h
 replace H := Option.bind_eq_some_iff.mp H
 obtain ⟨t171, A40, H⟩ := H
 replace H : (if t171 = true then (if (l0.length : Int) > 20 then (tattinglaw7_PairsOrder.j0 k l0 l1 l2 true) else (if (l1.length : Int) > 20 then (tattinglaw7_PairsOrder.j0 k l0 l1 l2 true) else (tattinglaw7_PairsOrder.j0 k l0 l1 l2 (decide ((l2.length : Int) > 20))))) else (some false)) = some r := H
 have A4 := Aside0.mk A40
 clear A40
 by_cases c5 : t171 = true
 ·subst c5
  have H1 : (if (l0.length : Int) > 20 then (tattinglaw7_PairsOrder.j0 k l0 l1 l2 true) else (if (l1.length : Int) > 20 then (tattinglaw7_PairsOrder.j0 k l0 l1 l2 true) else (tattinglaw7_PairsOrder.j0 k l0 l1 l2 (decide ((l2.length : Int) > 20))))) = some r := by rw [if_pos rfl] at H; exact H
  clear H
  have H := H1
  clear H1
  have HC6 := Aside0.mk H
  clear H
  go_enter Try.func6, Try.ntmps6
  go_upto_region 3 with (first | ((with_reducible refine gate_callee (f := 13) rfl ?_); refine goesL_ (some 11) rfl rfl Try.func13 (by kernel_rfl) rfl #[] rfl (by (try simp only [List.map_toArray, List.map_cons, List.map_nil]); first | done | rfl | (simp only [List.length_drop, List.length_take]; rfl)) ?_; (with_reducible refine (tattinglaw7_awake.calls k  true _ A4.out rfl).mono ?_); rintro e w7 ⟨rfl, hb⟩; refine ⟨_, rfl, ?_⟩; have n0_ := Aside0.mk (below_step (by repeat (first | (with_reducible first | exact HB.out | apply below_alloc | apply pw_below_drewN | apply below_drew1) | exact HB.out)) hb); clear HB; have HB := n0_; clear n0_; (try clear hb); (try clear hb2); (try clear hk); (try clear hi)))
  (try simp only [Act.put, sA,sB,sC])
  go_cut [25] (fun v25 wc => ∃ (kq : Nat) (x25_5 : Bool), v25 = .bool x25_5 ∧ Aside0 (tattinglaw7_PairsOrder.j0 kq l0 l1 l2 x25_5 = some r) ∧ Aside0 (kq ≤ k) ∧ Aside0 (Below w.heap.size w wc))
  case first =>
   have H := HC6.out
   clear HC6
   by_cases c8 : (l0.length : Int) > 20
   ·rw [if_pos c8] at H
    have c8b0 : decide (20 < (l0.length : Int)) = true := decide_eq_true c8
    have c8b1 : decide (20 < l0.length) = true := decide_eq_true (by omega)
    clear c8
    (first | rw [c8b0] | (simp only [i64_w, i32_w]; rw [c8b0]) | skip)
    have H' := Aside0.mk H
    clear H
    go_wp2
    go_meet
    case rel => exact ⟨_, (true), (by first | rfl | (simp; done) | (simp [*]; done)), H', ⟨by first | omega | exact Nat.le_refl _⟩, ⟨by repeat (first | (with_reducible first | exact HB.out | apply below_alloc | apply pw_below_drewN | apply below_drew1) | exact HB.out)⟩⟩
   ·rw [if_neg c8] at H
    have c8b0 : decide (20 < (l0.length : Int)) = false := decide_eq_false c8
    have c8b1 : decide (20 < l0.length) = false := decide_eq_false (by omega)
    clear c8
    (first | rw [c8b0] | (simp only [i64_w, i32_w]; rw [c8b0]) | skip)
    by_cases c9 : (l1.length : Int) > 20
    ·rw [if_pos c9] at H
     have c9b0 : decide (20 < (l1.length : Int)) = true := decide_eq_true c9
     have c9b1 : decide (20 < l1.length) = true := decide_eq_true (by omega)
     clear c9
     have H' := Aside0.mk H
     clear H
     go_wp2
     go_meet
     case rel => exact ⟨_, (true), (by first | rfl | (simp; done) | (simp [*]; done)), H', ⟨by first | omega | exact Nat.le_refl _⟩, ⟨by repeat (first | (with_reducible first | exact HB.out | apply below_alloc | apply pw_below_drewN | apply below_drew1) | exact HB.out)⟩⟩
    ·rw [if_neg c9] at H
     have c9b0 : decide (20 < (l1.length : Int)) = false := decide_eq_false c9
     have c9b1 : decide (20 < l1.length) = false := decide_eq_false (by omega)
     clear c9
     have H' := Aside0.mk H
     clear H
     go_wp2
     go_meet
     case rel => exact ⟨_, (decide ((l2.length : Int) > 20)), (by first | rfl | (simp; done) | (simp [*]; done)), H', ⟨by first | omega | exact Nat.le_refl _⟩, ⟨by repeat (first | (with_reducible first | exact HB.out | apply below_alloc | apply pw_below_drewN | apply below_drew1) | exact HB.out)⟩⟩
  case rest =>
   clear HC6
   try clear c1
   try clear c2
   try clear p2
   try clear c5
   try clear c6
   try clear c8
   try clear c8b0
   try clear c8b1
   try clear c9
   try clear c9b0
   try clear c9b1
   obtain ⟨kq, x25_5, rfl, HA, HJ5, HB⟩ := hcut
   cases kq with
   | zero => exact absurd HA.out (by simp [tattinglaw7_PairsOrder.j0])
   | succ kj5 =>
    have H := HA.out
    clear HA
    simp only [tattinglaw7_PairsOrder.j0] at H
    by_cases c10 : x25_5 = true
    ·subst c10
     have H1 : (some true) = some r := by rw [if_pos rfl] at H; exact H
     clear H
     have H := H1
     clear H1
     obtain rfl := Option.some.inj H
     go_wp2
     go_ret
     exact ⟨by first | rfl | (simp [errW_none, errW_some] <;> rfl) | (simp [*, errW_none, errW_some] <;> rfl), by repeat (first | (with_reducible first | exact HB.out | apply below_alloc | apply pw_below_drewN | apply below_drew1) | exact HB.out)⟩
    ·replace c10 := Bool.eq_false_iff.mpr c10
     subst c10
     have H1 : ((pairs_Less.f kj5 l0 l1).bind fun t172 => ((pairs_Less.f kj5 l1 l0).bind fun t173 => ((tattingref1_SamePairs.f kj5 l0 l1).bind fun t174 => (if t172 = true then (if t173 = true then (tattinglaw7_PairsOrder.j1 kj5 l0 l1 l2 false) else (if t174 = true then (tattinglaw7_PairsOrder.j1 kj5 l0 l1 l2 false) else (tattinglaw7_PairsOrder.j1 kj5 l0 l1 l2 true))) else (if t173 = true then (if t174 = true then (tattinglaw7_PairsOrder.j1 kj5 l0 l1 l2 false) else (tattinglaw7_PairsOrder.j1 kj5 l0 l1 l2 true)) else (tattinglaw7_PairsOrder.j1 kj5 l0 l1 l2 t174)))))) = some r := by rw [if_neg (show ¬ (false = true) by decide)] at H; exact H
     clear H
     have H := H1
     clear H1
     replace H := Option.bind_eq_some_iff.mp H
     obtain ⟨t172, A110, H⟩ := H
     replace H : ((pairs_Less.f kj5 l1 l0).bind fun t173 => ((tattingref1_SamePairs.f kj5 l0 l1).bind fun t174 => (if t172 = true then (if t173 = true then (tattinglaw7_PairsOrder.j1 kj5 l0 l1 l2 false) else (if t174 = true then (tattinglaw7_PairsOrder.j1 kj5 l0 l1 l2 false) else (tattinglaw7_PairsOrder.j1 kj5 l0 l1 l2 true))) else (if t173 = true then (if t174 = true then (tattinglaw7_PairsOrder.j1 kj5 l0 l1 l2 false) else (tattinglaw7_PairsOrder.j1 kj5 l0 l1 l2 true)) else (tattinglaw7_PairsOrder.j1 kj5 l0 l1 l2 t174))))) = some r := H
     have A11 := Aside0.mk A110
     clear A110
     replace H := Option.bind_eq_some_iff.mp H
     obtain ⟨t173, A120, H⟩ := H
     replace H : ((tattingref1_SamePairs.f kj5 l0 l1).bind fun t174 => (if t172 = true then (if t173 = true then (tattinglaw7_PairsOrder.j1 kj5 l0 l1 l2 false) else (if t174 = true then (tattinglaw7_PairsOrder.j1 kj5 l0 l1 l2 false) else (tattinglaw7_PairsOrder.j1 kj5 l0 l1 l2 true))) else (if t173 = true then (if t174 = true then (tattinglaw7_PairsOrder.j1 kj5 l0 l1 l2 false) else (tattinglaw7_PairsOrder.j1 kj5 l0 l1 l2 true)) else (tattinglaw7_PairsOrder.j1 kj5 l0 l1 l2 t174)))) = some r := H
     have A12 := Aside0.mk A120
     clear A120
     replace H := Option.bind_eq_some_iff.mp H
     obtain ⟨t174, A130, H⟩ := H
     replace H : (if t172 = true then (if t173 = true then (tattinglaw7_PairsOrder.j1 kj5 l0 l1 l2 false) else (if t174 = true then (tattinglaw7_PairsOrder.j1 kj5 l0 l1 l2 false) else (tattinglaw7_PairsOrder.j1 kj5 l0 l1 l2 true))) else (if t173 = true then (if t174 = true then (tattinglaw7_PairsOrder.j1 kj5 l0 l1 l2 false) else (tattinglaw7_PairsOrder.j1 kj5 l0 l1 l2 true)) else (tattinglaw7_PairsOrder.j1 kj5 l0 l1 l2 t174))) = some r := H
     have A13 := Aside0.mk A130
     clear A130
     have HC14 := Aside0.mk H
     clear H
     go_upto_region 6 with (first | ((with_reducible refine gate_callee (f := 15) rfl ?_); refine goesL_ (some 28) rfl rfl Try.func15 (by kernel_rfl) rfl #[.slice A0 l0.length c0, .slice A1 l1.length c1] rfl (by (try simp only [List.map_toArray, List.map_cons, List.map_nil]); first | done | rfl | (simp only [List.length_drop, List.length_take]; rfl)) ?_; (with_reducible refine (pairs_Less.calls kj5 _ _ l0 _ _ l1 t172 _ ?side1 ?side2 ?side3 ?side4 A11.out).mono ?_); (case side1 => repeat (first | exact (Kd.C_below HR0.out HB.out) | (with_reducible refine Kd.C_alloc ?_ _) | (with_reducible refine Kd.C_drewN ?_ _) | (with_reducible refine Kd.C_drew ?_))); (case side2 => exact HC0.out); (case side3 => repeat (first | exact (Kd.C_below HR1.out HB.out) | (with_reducible refine Kd.C_alloc ?_ _) | (with_reducible refine Kd.C_drewN ?_ _) | (with_reducible refine Kd.C_drew ?_))); (case side4 => exact HC1.out); rintro e w15 ⟨rfl, hb⟩; refine ⟨_, rfl, ?_⟩; have n0_ := Aside0.mk (below_step (by repeat (first | (with_reducible first | exact HB.out | apply below_alloc | apply pw_below_drewN | apply below_drew1) | exact HB.out)) hb); clear HB; have HB := n0_; clear n0_; (try clear hb); (try clear hb2); (try clear hk); (try clear hi)) | ((with_reducible refine gate_callee (f := 15) rfl ?_); refine goesL_ (some 31) rfl rfl Try.func15 (by kernel_rfl) rfl #[.slice A1 l1.length c1, .slice A0 l0.length c0] rfl (by (try simp only [List.map_toArray, List.map_cons, List.map_nil]); first | done | rfl | (simp only [List.length_drop, List.length_take]; rfl)) ?_; (with_reducible refine (pairs_Less.calls kj5 _ _ l1 _ _ l0 t173 _ ?side1 ?side2 ?side3 ?side4 A12.out).mono ?_); (case side1 => repeat (first | exact (Kd.C_below HR1.out HB.out) | (with_reducible refine Kd.C_alloc ?_ _) | (with_reducible refine Kd.C_drewN ?_ _) | (with_reducible refine Kd.C_drew ?_))); (case side2 => exact HC1.out); (case side3 => repeat (first | exact (Kd.C_below HR0.out HB.out) | (with_reducible refine Kd.C_alloc ?_ _) | (with_reducible refine Kd.C_drewN ?_ _) | (with_reducible refine Kd.C_drew ?_))); (case side4 => exact HC0.out); rintro e w16 ⟨rfl, hb⟩; refine ⟨_, rfl, ?_⟩; have n0_ := Aside0.mk (below_step (by repeat (first | (with_reducible first | exact HB.out | apply below_alloc | apply pw_below_drewN | apply below_drew1) | exact HB.out)) hb); clear HB; have HB := n0_; clear n0_; (try clear hb); (try clear hb2); (try clear hk); (try clear hi)) | ((with_reducible refine gate_callee (f := 19) rfl ?_); refine goesL_ (some 34) rfl rfl Try.func19 (by kernel_rfl) rfl #[.slice A0 l0.length c0, .slice A1 l1.length c1] rfl (by (try simp only [List.map_toArray, List.map_cons, List.map_nil]); first | done | rfl | (simp only [List.length_drop, List.length_take]; rfl)) ?_; (with_reducible refine (tattingref1_SamePairs.calls kj5 _ _ l0 _ _ l1 t174 _ ?side1 ?side2 ?side3 ?side4 A13.out).mono ?_); (case side1 => repeat (first | exact (Kd.C_below HR0.out HB.out) | (with_reducible refine Kd.C_alloc ?_ _) | (with_reducible refine Kd.C_drewN ?_ _) | (with_reducible refine Kd.C_drew ?_))); (case side2 => exact HC0.out); (case side3 => repeat (first | exact (Kd.C_below HR1.out HB.out) | (with_reducible refine Kd.C_alloc ?_ _) | (with_reducible refine Kd.C_drewN ?_ _) | (with_reducible refine Kd.C_drew ?_))); (case side4 => exact HC1.out); rintro e w' ⟨rfl, ⟨nd, rfl⟩⟩; refine ⟨_, rfl, ?_⟩))
     (try simp only [Act.put, sA,sB,sC])
     go_cut [10] (fun v10 wc => ∃ (kq : Nat) (x10_13 : Bool), v10 = .bool x10_13 ∧ Aside0 (tattinglaw7_PairsOrder.j1 kq l0 l1 l2 x10_13 = some r) ∧ Aside0 (kq ≤ kj5) ∧ Aside0 (Below w.heap.size w wc))
     case first =>
      have H := HC14.out
      clear HC14
      by_cases c17 : t172 = true
      ·subst c17
       have H1 : (if t173 = true then (tattinglaw7_PairsOrder.j1 kj5 l0 l1 l2 false) else (if t174 = true then (tattinglaw7_PairsOrder.j1 kj5 l0 l1 l2 false) else (tattinglaw7_PairsOrder.j1 kj5 l0 l1 l2 true))) = some r := by rw [if_pos rfl] at H; exact H
       clear H
       have H := H1
       clear H1
       by_cases c18 : t173 = true
       ·subst c18
        have H1 : (tattinglaw7_PairsOrder.j1 kj5 l0 l1 l2 false) = some r := by rw [if_pos rfl] at H; exact H
        clear H
        have H := H1
        clear H1
        have H' := Aside0.mk H
        clear H
        go_wp2
        go_meet
        case rel => exact ⟨_, (false), (by first | rfl | (simp; done) | (simp [*]; done)), H', ⟨by have := HJ5.out; first | omega | exact Nat.le_refl _⟩, ⟨by repeat (first | (with_reducible first | exact HB.out | apply below_alloc | apply pw_below_drewN | apply below_drew1) | exact HB.out)⟩⟩
       ·replace c18 := Bool.eq_false_iff.mpr c18
        subst c18
        have H1 : (if t174 = true then (tattinglaw7_PairsOrder.j1 kj5 l0 l1 l2 false) else (tattinglaw7_PairsOrder.j1 kj5 l0 l1 l2 true)) = some r := by rw [if_neg (show ¬ (false = true) by decide)] at H; exact H
        clear H
        have H := H1
        clear H1
        by_cases c19 : t174 = true
        ·subst c19
         have H1 : (tattinglaw7_PairsOrder.j1 kj5 l0 l1 l2 false) = some r := by rw [if_pos rfl] at H; exact H
         clear H
         have H := H1
         clear H1
         have H' := Aside0.mk H
         clear H
         go_wp2
         go_meet
         case rel => exact ⟨_, (false), (by first | rfl | (simp; done) | (simp [*]; done)), H', ⟨by have := HJ5.out; first | omega | exact Nat.le_refl _⟩, ⟨by repeat (first | (with_reducible first | exact HB.out | apply below_alloc | apply pw_below_drewN | apply below_drew1) | exact HB.out)⟩⟩
        ·replace c19 := Bool.eq_false_iff.mpr c19
         subst c19
         have H1 : (tattinglaw7_PairsOrder.j1 kj5 l0 l1 l2 true) = some r := by rw [if_neg (show ¬ (false = true) by decide)] at H; exact H
         clear H
         have H := H1
         clear H1
         have H' := Aside0.mk H
         clear H
         go_wp2
         go_meet
         case rel => exact ⟨_, (true), (by first | rfl | (simp; done) | (simp [*]; done)), H', ⟨by have := HJ5.out; first | omega | exact Nat.le_refl _⟩, ⟨by repeat (first | (with_reducible first | exact HB.out | apply below_alloc | apply pw_below_drewN | apply below_drew1) | exact HB.out)⟩⟩
      ·replace c17 := Bool.eq_false_iff.mpr c17
       subst c17
       have H1 : (if t173 = true then (if t174 = true then (tattinglaw7_PairsOrder.j1 kj5 l0 l1 l2 false) else (tattinglaw7_PairsOrder.j1 kj5 l0 l1 l2 true)) else (tattinglaw7_PairsOrder.j1 kj5 l0 l1 l2 t174)) = some r := by rw [if_neg (show ¬ (false = true) by decide)] at H; exact H
       clear H
       have H := H1
       clear H1
       by_cases c20 : t173 = true
       ·subst c20
        have H1 : (if t174 = true then (tattinglaw7_PairsOrder.j1 kj5 l0 l1 l2 false) else (tattinglaw7_PairsOrder.j1 kj5 l0 l1 l2 true)) = some r := by rw [if_pos rfl] at H; exact H
        clear H
        have H := H1
        clear H1
        by_cases c21 : t174 = true
        ·subst c21
         have H1 : (tattinglaw7_PairsOrder.j1 kj5 l0 l1 l2 false) = some r := by rw [if_pos rfl] at H; exact H
         clear H
         have H := H1
         clear H1
         have H' := Aside0.mk H
         clear H
         go_wp2
         go_meet
         case rel => exact ⟨_, (false), (by first | rfl | (simp; done) | (simp [*]; done)), H', ⟨by have := HJ5.out; first | omega | exact Nat.le_refl _⟩, ⟨by repeat (first | (with_reducible first | exact HB.out | apply below_alloc | apply pw_below_drewN | apply below_drew1) | exact HB.out)⟩⟩
        ·replace c21 := Bool.eq_false_iff.mpr c21
         subst c21
         have H1 : (tattinglaw7_PairsOrder.j1 kj5 l0 l1 l2 true) = some r := by rw [if_neg (show ¬ (false = true) by decide)] at H; exact H
         clear H
         have H := H1
         clear H1
         have H' := Aside0.mk H
         clear H
         go_wp2
         go_meet
         case rel => exact ⟨_, (true), (by first | rfl | (simp; done) | (simp [*]; done)), H', ⟨by have := HJ5.out; first | omega | exact Nat.le_refl _⟩, ⟨by repeat (first | (with_reducible first | exact HB.out | apply below_alloc | apply pw_below_drewN | apply below_drew1) | exact HB.out)⟩⟩
       ·replace c20 := Bool.eq_false_iff.mpr c20
        subst c20
        have H1 : (tattinglaw7_PairsOrder.j1 kj5 l0 l1 l2 t174) = some r := by rw [if_neg (show ¬ (false = true) by decide)] at H; exact H
        clear H
        have H := H1
        clear H1
        have H' := Aside0.mk H
        clear H
        go_wp2
        go_meet
        case rel => exact ⟨_, (t174), (by first | rfl | (simp; done) | (simp [*]; done)), H', ⟨by have := HJ5.out; first | omega | exact Nat.le_refl _⟩, ⟨by repeat (first | (with_reducible first | exact HB.out | apply below_alloc | apply pw_below_drewN | apply below_drew1) | exact HB.out)⟩⟩
     case rest =>
      clear HC14
      try clear c1
      try clear c2
      try clear p2
      try clear c5
      try clear c6
      try clear c8
      try clear c8b0
      try clear c8b1
      try clear c9
      try clear c9b0
      try clear c9b1
      try clear c10
      try clear c13
      try clear c15
      try clear c17
      try clear c18
      try clear c19
      try clear c20
      try clear c21
      try clear p2
      obtain ⟨kq, x10_13, rfl, HA, HJ13, HB⟩ := hcut
      cases kq with
      | zero => exact absurd HA.out (by simp [tattinglaw7_PairsOrder.j1])
      | succ kj13 =>
       have H := HA.out
       clear HA
       simp only [tattinglaw7_PairsOrder.j1] at H
       by_cases c22 : x10_13 = true
       ·subst c22
        have H1 : ((pairs_Less.f kj13 l0 l0).bind fun t175 => (if t175 = true then (some false) else ((pairs_Less.f kj13 l0 l1).bind fun t176 => (if t176 = true then ((pairs_Less.f kj13 l1 l2).bind fun t177 => (if t177 = true then ((pairs_Less.f kj13 l0 l2).bind fun t178 => (some t178)) else (some true))) else (some true))))) = some r := by rw [if_pos rfl] at H; exact H
        clear H
        have H := H1
        clear H1
        replace H := Option.bind_eq_some_iff.mp H
        obtain ⟨t175, A230, H⟩ := H
        replace H : (if t175 = true then (some false) else ((pairs_Less.f kj13 l0 l1).bind fun t176 => (if t176 = true then ((pairs_Less.f kj13 l1 l2).bind fun t177 => (if t177 = true then ((pairs_Less.f kj13 l0 l2).bind fun t178 => (some t178)) else (some true))) else (some true)))) = some r := H
        have A23 := Aside0.mk A230
        clear A230
        by_cases c24 : t175 = true
        ·subst c24
         have H1 : (some false) = some r := by rw [if_pos rfl] at H; exact H
         clear H
         have H := H1
         clear H1
         exact absurd (Option.some.inj H) (by rw [hr_]; decide)
        ·replace c24 := Bool.eq_false_iff.mpr c24
         subst c24
         have H1 : ((pairs_Less.f kj13 l0 l1).bind fun t176 => (if t176 = true then ((pairs_Less.f kj13 l1 l2).bind fun t177 => (if t177 = true then ((pairs_Less.f kj13 l0 l2).bind fun t178 => (some t178)) else (some true))) else (some true))) = some r := by rw [if_neg (show ¬ (false = true) by decide)] at H; exact H
         clear H
         have H := H1
         clear H1
         replace H := Option.bind_eq_some_iff.mp H
         obtain ⟨t176, A250, H⟩ := H
         replace H : (if t176 = true then ((pairs_Less.f kj13 l1 l2).bind fun t177 => (if t177 = true then ((pairs_Less.f kj13 l0 l2).bind fun t178 => (some t178)) else (some true))) else (some true)) = some r := H
         have A25 := Aside0.mk A250
         clear A250
         by_cases c26 : t176 = true
         ·subst c26
          have H1 : ((pairs_Less.f kj13 l1 l2).bind fun t177 => (if t177 = true then ((pairs_Less.f kj13 l0 l2).bind fun t178 => (some t178)) else (some true))) = some r := by rw [if_pos rfl] at H; exact H
          clear H
          have H := H1
          clear H1
          replace H := Option.bind_eq_some_iff.mp H
          obtain ⟨t177, A270, H⟩ := H
          replace H : (if t177 = true then ((pairs_Less.f kj13 l0 l2).bind fun t178 => (some t178)) else (some true)) = some r := H
          have A27 := Aside0.mk A270
          clear A270
          by_cases c28 : t177 = true
          ·subst c28
           have H1 : ((pairs_Less.f kj13 l0 l2).bind fun t178 => (some t178)) = some r := by rw [if_pos rfl] at H; exact H
           clear H
           have H := H1
           clear H1
           replace H := Option.bind_eq_some_iff.mp H
           obtain ⟨t178, A290, H⟩ := H
           replace H : (some t178) = some r := H
           have A29 := Aside0.mk A290
           clear A290
           obtain rfl := Option.some.inj H
           go_wp2_with (first | (go_at_call 15; (with_reducible refine (pairs_Less.calls kj13 _ _ l0 _ _ l0 false _ ?side1 ?side2 ?side3 ?side4 A23.out).mono ?_); (case side1 => repeat (first | exact (Kd.C_below HR0.out HB.out) | (with_reducible refine Kd.C_alloc ?_ _) | (with_reducible refine Kd.C_drewN ?_ _) | (with_reducible refine Kd.C_drew ?_))); (case side2 => exact HC0.out); (case side3 => repeat (first | exact (Kd.C_below HR0.out HB.out) | (with_reducible refine Kd.C_alloc ?_ _) | (with_reducible refine Kd.C_drewN ?_ _) | (with_reducible refine Kd.C_drew ?_))); (case side4 => exact HC0.out); rintro e w30 ⟨rfl, hb⟩; have n0_ := Aside0.mk (below_step (by repeat (first | (with_reducible first | exact HB.out | apply below_alloc | apply pw_below_drewN | apply below_drew1) | exact HB.out)) hb); clear HB; have HB := n0_; clear n0_; (try clear hb); (try clear hb2); (try clear hk); (try clear hi)) | (go_at_call 15; (with_reducible refine (pairs_Less.calls kj13 _ _ l0 _ _ l1 true _ ?side1 ?side2 ?side3 ?side4 A25.out).mono ?_); (case side1 => repeat (first | exact (Kd.C_below HR0.out HB.out) | (with_reducible refine Kd.C_alloc ?_ _) | (with_reducible refine Kd.C_drewN ?_ _) | (with_reducible refine Kd.C_drew ?_))); (case side2 => exact HC0.out); (case side3 => repeat (first | exact (Kd.C_below HR1.out HB.out) | (with_reducible refine Kd.C_alloc ?_ _) | (with_reducible refine Kd.C_drewN ?_ _) | (with_reducible refine Kd.C_drew ?_))); (case side4 => exact HC1.out); rintro e w31 ⟨rfl, hb⟩; have n0_ := Aside0.mk (below_step (by repeat (first | (with_reducible first | exact HB.out | apply below_alloc | apply pw_below_drewN | apply below_drew1) | exact HB.out)) hb); clear HB; have HB := n0_; clear n0_; (try clear hb); (try clear hb2); (try clear hk); (try clear hi)) | (go_at_call 15; (with_reducible refine (pairs_Less.calls kj13 _ _ l1 _ _ l2 true _ ?side1 ?side2 ?side3 ?side4 A27.out).mono ?_); (case side1 => repeat (first | exact (Kd.C_below HR1.out HB.out) | (with_reducible refine Kd.C_alloc ?_ _) | (with_reducible refine Kd.C_drewN ?_ _) | (with_reducible refine Kd.C_drew ?_))); (case side2 => exact HC1.out); (case side3 => repeat (first | exact (Kd.C_below HR2.out HB.out) | (with_reducible refine Kd.C_alloc ?_ _) | (with_reducible refine Kd.C_drewN ?_ _) | (with_reducible refine Kd.C_drew ?_))); (case side4 => exact HC2.out); rintro e w32 ⟨rfl, hb⟩; have n0_ := Aside0.mk (below_step (by repeat (first | (with_reducible first | exact HB.out | apply below_alloc | apply pw_below_drewN | apply below_drew1) | exact HB.out)) hb); clear HB; have HB := n0_; clear n0_; (try clear hb); (try clear hb2); (try clear hk); (try clear hi)) | (go_at_call 15; (with_reducible refine (pairs_Less.calls kj13 _ _ l0 _ _ l2 t178 _ ?side1 ?side2 ?side3 ?side4 A29.out).mono ?_); (case side1 => repeat (first | exact (Kd.C_below HR0.out HB.out) | (with_reducible refine Kd.C_alloc ?_ _) | (with_reducible refine Kd.C_drewN ?_ _) | (with_reducible refine Kd.C_drew ?_))); (case side2 => exact HC0.out); (case side3 => repeat (first | exact (Kd.C_below HR2.out HB.out) | (with_reducible refine Kd.C_alloc ?_ _) | (with_reducible refine Kd.C_drewN ?_ _) | (with_reducible refine Kd.C_drew ?_))); (case side4 => exact HC2.out); rintro e w33 ⟨rfl, hb⟩; have n0_ := Aside0.mk (below_step (by repeat (first | (with_reducible first | exact HB.out | apply below_alloc | apply pw_below_drewN | apply below_drew1) | exact HB.out)) hb); clear HB; have HB := n0_; clear n0_; (try clear hb); (try clear hb2); (try clear hk); (try clear hi)))
           go_ret
           exact ⟨by first | rfl | (simp [errW_none, errW_some] <;> rfl) | (simp [*, errW_none, errW_some] <;> rfl), by repeat (first | (with_reducible first | exact HB.out | apply below_alloc | apply pw_below_drewN | apply below_drew1) | exact HB.out)⟩
          ·replace c28 := Bool.eq_false_iff.mpr c28
           subst c28
           have H1 : (some true) = some r := by rw [if_neg (show ¬ (false = true) by decide)] at H; exact H
           clear H
           have H := H1
           clear H1
           obtain rfl := Option.some.inj H
           go_wp2_with (first | (go_at_call 15; (with_reducible refine (pairs_Less.calls kj13 _ _ l0 _ _ l0 false _ ?side1 ?side2 ?side3 ?side4 A23.out).mono ?_); (case side1 => repeat (first | exact (Kd.C_below HR0.out HB.out) | (with_reducible refine Kd.C_alloc ?_ _) | (with_reducible refine Kd.C_drewN ?_ _) | (with_reducible refine Kd.C_drew ?_))); (case side2 => exact HC0.out); (case side3 => repeat (first | exact (Kd.C_below HR0.out HB.out) | (with_reducible refine Kd.C_alloc ?_ _) | (with_reducible refine Kd.C_drewN ?_ _) | (with_reducible refine Kd.C_drew ?_))); (case side4 => exact HC0.out); rintro e w34 ⟨rfl, hb⟩; have n0_ := Aside0.mk (below_step (by repeat (first | (with_reducible first | exact HB.out | apply below_alloc | apply pw_below_drewN | apply below_drew1) | exact HB.out)) hb); clear HB; have HB := n0_; clear n0_; (try clear hb); (try clear hb2); (try clear hk); (try clear hi)) | (go_at_call 15; (with_reducible refine (pairs_Less.calls kj13 _ _ l0 _ _ l1 true _ ?side1 ?side2 ?side3 ?side4 A25.out).mono ?_); (case side1 => repeat (first | exact (Kd.C_below HR0.out HB.out) | (with_reducible refine Kd.C_alloc ?_ _) | (with_reducible refine Kd.C_drewN ?_ _) | (with_reducible refine Kd.C_drew ?_))); (case side2 => exact HC0.out); (case side3 => repeat (first | exact (Kd.C_below HR1.out HB.out) | (with_reducible refine Kd.C_alloc ?_ _) | (with_reducible refine Kd.C_drewN ?_ _) | (with_reducible refine Kd.C_drew ?_))); (case side4 => exact HC1.out); rintro e w35 ⟨rfl, hb⟩; have n0_ := Aside0.mk (below_step (by repeat (first | (with_reducible first | exact HB.out | apply below_alloc | apply pw_below_drewN | apply below_drew1) | exact HB.out)) hb); clear HB; have HB := n0_; clear n0_; (try clear hb); (try clear hb2); (try clear hk); (try clear hi)) | (go_at_call 15; (with_reducible refine (pairs_Less.calls kj13 _ _ l1 _ _ l2 false _ ?side1 ?side2 ?side3 ?side4 A27.out).mono ?_); (case side1 => repeat (first | exact (Kd.C_below HR1.out HB.out) | (with_reducible refine Kd.C_alloc ?_ _) | (with_reducible refine Kd.C_drewN ?_ _) | (with_reducible refine Kd.C_drew ?_))); (case side2 => exact HC1.out); (case side3 => repeat (first | exact (Kd.C_below HR2.out HB.out) | (with_reducible refine Kd.C_alloc ?_ _) | (with_reducible refine Kd.C_drewN ?_ _) | (with_reducible refine Kd.C_drew ?_))); (case side4 => exact HC2.out); rintro e w36 ⟨rfl, hb⟩; have n0_ := Aside0.mk (below_step (by repeat (first | (with_reducible first | exact HB.out | apply below_alloc | apply pw_below_drewN | apply below_drew1) | exact HB.out)) hb); clear HB; have HB := n0_; clear n0_; (try clear hb); (try clear hb2); (try clear hk); (try clear hi)))
           go_ret
           exact ⟨by first | rfl | (simp [errW_none, errW_some] <;> rfl) | (simp [*, errW_none, errW_some] <;> rfl), by repeat (first | (with_reducible first | exact HB.out | apply below_alloc | apply pw_below_drewN | apply below_drew1) | exact HB.out)⟩
         ·replace c26 := Bool.eq_false_iff.mpr c26
          subst c26
          have H1 : (some true) = some r := by rw [if_neg (show ¬ (false = true) by decide)] at H; exact H
          clear H
          have H := H1
          clear H1
          obtain rfl := Option.some.inj H
          go_wp2_with (first | (go_at_call 15; (with_reducible refine (pairs_Less.calls kj13 _ _ l0 _ _ l0 false _ ?side1 ?side2 ?side3 ?side4 A23.out).mono ?_); (case side1 => repeat (first | exact (Kd.C_below HR0.out HB.out) | (with_reducible refine Kd.C_alloc ?_ _) | (with_reducible refine Kd.C_drewN ?_ _) | (with_reducible refine Kd.C_drew ?_))); (case side2 => exact HC0.out); (case side3 => repeat (first | exact (Kd.C_below HR0.out HB.out) | (with_reducible refine Kd.C_alloc ?_ _) | (with_reducible refine Kd.C_drewN ?_ _) | (with_reducible refine Kd.C_drew ?_))); (case side4 => exact HC0.out); rintro e w37 ⟨rfl, hb⟩; have n0_ := Aside0.mk (below_step (by repeat (first | (with_reducible first | exact HB.out | apply below_alloc | apply pw_below_drewN | apply below_drew1) | exact HB.out)) hb); clear HB; have HB := n0_; clear n0_; (try clear hb); (try clear hb2); (try clear hk); (try clear hi)) | (go_at_call 15; (with_reducible refine (pairs_Less.calls kj13 _ _ l0 _ _ l1 false _ ?side1 ?side2 ?side3 ?side4 A25.out).mono ?_); (case side1 => repeat (first | exact (Kd.C_below HR0.out HB.out) | (with_reducible refine Kd.C_alloc ?_ _) | (with_reducible refine Kd.C_drewN ?_ _) | (with_reducible refine Kd.C_drew ?_))); (case side2 => exact HC0.out); (case side3 => repeat (first | exact (Kd.C_below HR1.out HB.out) | (with_reducible refine Kd.C_alloc ?_ _) | (with_reducible refine Kd.C_drewN ?_ _) | (with_reducible refine Kd.C_drew ?_))); (case side4 => exact HC1.out); rintro e w38 ⟨rfl, hb⟩; have n0_ := Aside0.mk (below_step (by repeat (first | (with_reducible first | exact HB.out | apply below_alloc | apply pw_below_drewN | apply below_drew1) | exact HB.out)) hb); clear HB; have HB := n0_; clear n0_; (try clear hb); (try clear hb2); (try clear hk); (try clear hi)))
          go_ret
          exact ⟨by first | rfl | (simp [errW_none, errW_some] <;> rfl) | (simp [*, errW_none, errW_some] <;> rfl), by repeat (first | (with_reducible first | exact HB.out | apply below_alloc | apply pw_below_drewN | apply below_drew1) | exact HB.out)⟩
       ·replace c22 := Bool.eq_false_iff.mpr c22
        subst c22
        have H1 : (some false) = some r := by rw [if_neg (show ¬ (false = true) by decide)] at H; exact H
        clear H
        have H := H1
        clear H1
        exact absurd (Option.some.inj H) (by rw [hr_]; decide)
 ·replace c5 := Bool.eq_false_iff.mpr c5
  subst c5
  have H1 : (some false) = some r := by rw [if_neg (show ¬ (false = true) by decide)] at H; exact H
  clear H
  have H := H1
  clear H1
  exact absurd (Option.some.inj H) (by rw [hr_]; decide)

/-- THE ONE PURE STATEMENT of tattinglaw7_PairsOrder: yours. -/
def tattinglaw7_PairsOrder.Pure : Prop := ∀ (l0 : List (S24)) (l1 : List (S24)) (l2 : List (S24)), l0.length ≤ maxLen → (∀ x ∈ l0, (Lit.int .i64 x.f0).wf = true ∧ (Lit.int .i64 x.f1).wf = true) → l1.length ≤ maxLen → (∀ x ∈ l1, (Lit.int .i64 x.f0).wf = true ∧ (Lit.int .i64 x.f1).wf = true) → l2.length ≤ maxLen → (∀ x ∈ l2, (Lit.int .i64 x.f0).wf = true ∧ (Lit.int .i64 x.f1).wf = true) → ∃ k, tattinglaw7_PairsOrder.f k l0 l1 l2 = some true
theorem tattinglaw7_PairsOrder.walk (P : tattinglaw7_PairsOrder.Pure) (a0 : Option Addr) (cap0 : Nat) (l0 : List (S24)) (a1 : Option Addr) (cap1 : Nat) (l1 : List (S24)) (a2 : Option Addr) (cap2 : Nat) (l2 : List (S24)) (w : World) (w0 : Kd.C k24 w a0 l0.length l0 ∧ l0.length ≤ cap0 ∧ l0.length ≤ maxLen ∧ (∀ x ∈ l0, (Lit.int .i64 x.f0).wf = true ∧ (Lit.int .i64 x.f1).wf = true)) (w1 : Kd.C k24 w a1 l1.length l1 ∧ l1.length ≤ cap1 ∧ l1.length ≤ maxLen ∧ (∀ x ∈ l1, (Lit.int .i64 x.f0).wf = true ∧ (Lit.int .i64 x.f1).wf = true)) (w2 : Kd.C k24 w a2 l2.length l2 ∧ l2.length ≤ cap2 ∧ l2.length ≤ maxLen ∧ (∀ x ∈ l2, (Lit.int .i64 x.f0).wf = true ∧ (Lit.int .i64 x.f1).wf = true)) :
  Calls Try.prog 6 #[.slice a0 l0.length cap0, .slice a1 l1.length cap1, .slice a2 l2.length cap2] w fun e w' => e = .returned (.bool true) ∧ Below w.heap.size w w' := by
 obtain ⟨hr0, hc0, hm0, hw0⟩ := w0
 obtain ⟨hr1, hc1, hm1, hw1⟩ := w1
 obtain ⟨hr2, hc2, hm2, hw2⟩ := w2
 obtain ⟨k, h⟩ := P l0 l1 l2 hm0 hw0 hm1 hw1 hm2 hw2
 refine (tattinglaw7_PairsOrder.calls k _ _ l0 _ _ l1 _ _ l2 true w hr0 hc0 hr1 hc1 hr2 hc2 h rfl).mono ?_
 rintro e w' ⟨rfl, hd⟩
 exact ⟨rfl, hd⟩

end Go.Proofs.Ytpodjfnmncpnmaa.PPairsOrder
