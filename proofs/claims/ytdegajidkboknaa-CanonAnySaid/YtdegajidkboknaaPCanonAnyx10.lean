/- What the given program's functions come to, each a Lean function and the walk that shows it: no condition beside those that each theorem names. -/
import Derived.Test.YtdegajidkboknaaPCanonAnyx0
import Derived.Test.YtdegajidkboknaaPCanonAnyx8
import Derived.Test.YtdegajidkboknaaPCanonAnyx9
namespace Go.Proofs.Ytdegajidkboknaa.PCanonAny
open Go.RowKit Go.Proofs.YtdegajidkboknaaW.PrintWords Go.Proofs.YtdegajidkboknaaW.PrintLast Go.Proofs.YtdegajidkboknaaW.PrintMore
attribute [local go_sem] max2_int min2_int max_two min_two max_three min_three max_four min_four   -- for this text's walks alone
set_option linter.unusedVariables false
set_option linter.unusedSimpArgs false

/-! ### tattingref7_AheadB: a part of function 38 -/
mutual
def tattingref7_AheadB.l0 : Nat → List Int → List Int → List (List Int) → List (List Int) → Int → Option ((List (List Int)))
 | 0, _, _, _, _, _ => none
 | k + 1, x0, x1, x2, x6, x7 => if x7 ≤ (x0.length : Int) then (if 0 ≤ (wrap64 ((x1.length : Int) + 1)) then (if (wrap64 ((x1.length : Int) + 1) : Int).toNat ≤ 35184372088832 then (if 0 ≤ x7 then (if x7 < (x6.length : Int) then (tattingref7_AheadB.l1 k x0 x1 x2 (x6.set (x7 : Int).toNat (List.replicate (wrap64 ((x1.length : Int) + 1) : Int).toNat 0)) x7 0) else (none)) else (none)) else (none)) else (none)) else (some x6)
def tattingref7_AheadB.l1 : Nat → List Int → List Int → List (List Int) → List (List Int) → Int → Int → Option ((List (List Int)))
 | 0, _, _, _, _, _, _ => none
 | k + 1, x0, x1, x2, x6, x7, x8 => if x8 ≤ (x1.length : Int) then (if 0 ≤ x7 then (if x7 < (x6.length : Int) then (if 0 ≤ (wrap64 ((x0.length : Int) - x7)) then (if (wrap64 ((x0.length : Int) - x7)) < (x2.length : Int) then (if 0 ≤ (wrap64 ((x1.length : Int) - x8)) then (if (wrap64 ((x1.length : Int) - x8)) < ((rd_L2 x2 (wrap64 ((x0.length : Int) - x7))).length : Int) then (if 0 ≤ x8 then (if x8 < ((rd_L2 x6 x7).length : Int) then (tattingref7_AheadB.l1 k x0 x1 x2 (x6.set (x7 : Int).toNat ((rd_L2 x6 x7).set (x8 : Int).toNat (rd (rd_L2 x2 (wrap64 ((x0.length : Int) - x7))) (wrap64 ((x1.length : Int) - x8))))) x7 (wrap64 (x8 + 1))) else (none)) else (none)) else (none)) else (none)) else (none)) else (none)) else (none)) else (none)) else (tattingref7_AheadB.l0 k x0 x1 x2 x6 (wrap64 (x7 + 1)))
end
def tattingref7_AheadB.f (k : Nat) (l0 : List Int) (l1 : List Int) (l2 : List (List Int)) : Option ((List (List Int))) := if 0 ≤ (wrap64 ((l0.length : Int) + 1)) then (if (wrap64 ((l0.length : Int) + 1) : Int).toNat ≤ 11728124029610 then (tattingref7_AheadB.l0 k l0 l1 l2 (List.replicate (wrap64 ((l0.length : Int) + 1) : Int).toNat []) 0) else (none)) else (none)
theorem tattingref7_AheadB.mono_l : ∀ k, (∀ y0 y1 y2 y3 y4, LeO (tattingref7_AheadB.l0 k y0 y1 y2 y3 y4) (tattingref7_AheadB.l0 (k + 1) y0 y1 y2 y3 y4)) ∧ (∀ y0 y1 y2 y3 y4 y5, LeO (tattingref7_AheadB.l1 k y0 y1 y2 y3 y4 y5) (tattingref7_AheadB.l1 (k + 1) y0 y1 y2 y3 y4 y5))
 | 0 => ⟨fun _ _ _ _ _ r h => by simp [tattingref7_AheadB.l0] at h, fun _ _ _ _ _ _ r h => by simp [tattingref7_AheadB.l1] at h⟩
 | k + 1 => by
  obtain ⟨ih0, ih1⟩ := tattingref7_AheadB.mono_l k
  refine ⟨?_, ?_⟩
  ·intro y0 y1 y2 y3 y4
   unfold tattingref7_AheadB.l0
   repeat' first
   | (with_reducible exact ih0 _ _ _ _ _)
   | (with_reducible exact ih1 _ _ _ _ _ _)
   | (with_reducible exact LeO.refl _)
   | (with_reducible exact LeO.none _)
   | (with_reducible refine LeO.ite ?_ ?_)
   | (with_reducible refine LeO.bind ?_ (fun _ => ?_))
   | exact ih0 _ _ _ _ _
   | exact ih1 _ _ _ _ _ _
   | exact LeO.none _
   | refine LeO.ite ?_ ?_
   | refine LeO.bind ?_ (fun _ => ?_)
  ·intro y0 y1 y2 y3 y4 y5
   unfold tattingref7_AheadB.l1
   repeat' first
   | (with_reducible exact ih0 _ _ _ _ _)
   | (with_reducible exact ih1 _ _ _ _ _ _)
   | (with_reducible exact LeO.refl _)
   | (with_reducible exact LeO.none _)
   | (with_reducible refine LeO.ite ?_ ?_)
   | (with_reducible refine LeO.bind ?_ (fun _ => ?_))
   | exact ih0 _ _ _ _ _
   | exact ih1 _ _ _ _ _ _
   | exact LeO.none _
   | refine LeO.ite ?_ ?_
   | refine LeO.bind ?_ (fun _ => ?_)
theorem tattingref7_AheadB.mono : ∀ a0 a1 a2 k, LeO (tattingref7_AheadB.f k a0 a1 a2) (tattingref7_AheadB.f (k + 1) a0 a1 a2) := by
 intro a0 a1 a2 k
 obtain ⟨ih0, ih1⟩ := tattingref7_AheadB.mono_l k
 unfold tattingref7_AheadB.f
 repeat' first
   | (with_reducible exact ih0 _ _ _ _ _)
   | (with_reducible exact ih1 _ _ _ _ _ _)
   | (with_reducible exact LeO.refl _)
   | (with_reducible exact LeO.none _)
   | (with_reducible refine LeO.ite ?_ ?_)
   | (with_reducible refine LeO.bind ?_ (fun _ => ?_))
   | exact ih0 _ _ _ _ _
   | exact ih1 _ _ _ _ _ _
   | exact LeO.none _
   | refine LeO.ite ?_ ?_
   | refine LeO.bind ?_ (fun _ => ?_)
def tattingref7_AheadB.T10 : Bool × List (List Nat × List Nat) := (true, [([], []), ([], []), ([0, 1], [0, 1]), ([2], [2]), ([], []), ([], []), ([], []), ([6], [6]), ([], []), ([7, 8], [7, 8]), ([5, 9], [5, 9]), ([10], [10]), ([], []), ([12], [12]), ([], []), ([13, 14], [13, 14]), ([11, 15], [11, 15]), ([16], [16]), ([3, 4, 0, 1, 2, 3, 4, 5, 6, 7, 8, 9, 10, 11, 12, 13, 14, 15, 16, 17], [3, 4]), ([18, 17, 0, 1, 2, 3, 4, 5, 6, 7, 8, 9, 10, 11, 12, 13, 14, 15, 16, 17], [17, 18])])
def tattingref7_AheadB.B10 : List Nat := [0, 0, 3, 7, 0, 0, 0, 64, 0, 448, 992, 2016, 0, 4096, 0, 28672, 65504, 131040, 262143, 524287]
theorem tattingref7_AheadB.tab10 : rtab .any (opsOf Try.f38 10) = tattingref7_AheadB.T10 := by kernel_rfl
theorem tattingref7_AheadB.bits10 : waitsOk tattingref7_AheadB.T10.2 tattingref7_AheadB.B10 = true := by kernel_rfl

/-! ### tattingref7_Ahead: function 38 -/
def tattingref7_Ahead.f (k : Nat) (l0 : List Int) (l1 : List Int) : Option (List (List Int)) := (tattingref7_AheadA.f k l0 l1).bind fun t => tattingref7_AheadB.f k l0 l1 t
theorem tattingref7_Ahead.mono : ∀ a0 a1 k, LeO (tattingref7_Ahead.f k a0 a1) (tattingref7_Ahead.f (k + 1) a0 a1) := by
 intro a0 a1 k
 unfold tattingref7_Ahead.f
 exact LeO.bind (tattingref7_AheadA.mono a0 a1 k) (fun t => tattingref7_AheadB.mono a0 a1 t k)
set_option maxHeartbeats 8000000 in
set_option maxRecDepth 100000 in
theorem tattingref7_Ahead.calls (k : Nat) (A0 : Option Addr) (c0 : Nat) (l0 : List Int) (A1 : Option Addr) (c1 : Nat) (l1 : List Int) (r : List (List Int)) (w0 : World) (hr0 : Kd.C (Kd.int .i64) w0 A0 l0.length l0) (hc0 : l0.length ≤ c0) (hr1 : Kd.C (Kd.int .i64) w0 A1 l1.length l1) (hc1 : l1.length ≤ c1) (h : tattingref7_Ahead.f k l0 l1 = some r) :
  Calls Try.prog 38 #[.slice A0 l0.length c0, .slice A1 l1.length c1] w0 fun e w' => ∃ v0_ : Value, e = .returned (v0_) ∧ Kd.S (Kd.slice 3 (Kd.int .i64)) 26 w' w0.heap.size (fun _ => True) v0_ r ∧ Below w0.heap.size w0 w' := by
 obtain ⟨r2_, h, hB_⟩ := Option.bind_eq_some_iff.mp h
 have HR0 := Aside0.mk hr0
 have HC0 := Aside0.mk hc0
 clear hr0 hc0
 have HR1 := Aside0.mk hr1
 have HC1 := Aside0.mk hc1
 clear hr1 hc1
 have HB := Aside0.mk (Below.refl w0.heap.size w0)
 have H : ((tattingref7_Turned.f k l0).bind fun t292 => ((tattingref7_Turned.f k l1).bind fun t295 => ((tattingref7_Behind.f k t292 t295).bind fun l2 => (some l2)))) = some r2_ := h
 clear h
 replace H := Option.bind_eq_some_iff.mp H
 obtain ⟨t292, A30, H⟩ := H
 replace H : ((tattingref7_Turned.f k l1).bind fun t295 => ((tattingref7_Behind.f k t292 t295).bind fun l2 => (some l2))) = some r2_ := H
 have A3 := Aside0.mk A30
 clear A30
 replace H := Option.bind_eq_some_iff.mp H
 obtain ⟨t295, A40, H⟩ := H
 replace H : ((tattingref7_Behind.f k t292 t295).bind fun l2 => (some l2)) = some r2_ := H
 have A4 := Aside0.mk A40
 clear A40
 replace H := Option.bind_eq_some_iff.mp H
 obtain ⟨l2, A50, H⟩ := H
 replace H : (some l2) = some r2_ := H
 have A5 := Aside0.mk A50
 clear A50
 obtain rfl := Option.some.inj H
 have h := hB_
 clear hB_
 have H : (if 0 ≤ (wrap64 ((l0.length : Int) + 1)) then (if (wrap64 ((l0.length : Int) + 1) : Int).toNat ≤ 11728124029610 then (tattingref7_AheadB.l0 k l0 l1 l2 (List.replicate (wrap64 ((l0.length : Int) + 1) : Int).toNat []) 0) else (none)) else (none)) = some r := h
 clear h
 obtain ⟨ji4, hji4⟩ : ∃ j_ : Int, (wrap64 ((l0.length : Int) + 1)) = j_ := ⟨_, rfl⟩
 replace H : (if 0 ≤ (ji4) then (if (ji4 : Int).toNat ≤ 11728124029610 then (tattingref7_AheadB.l0 k l0 l1 l2 (List.replicate (ji4 : Int).toNat []) 0) else (none)) else (none)) = some r := by first | (rw [hji4] at H; exact H) | (simp only [hji4] at H ⊢; exact H)
 have hji4w : (IntKind.i64.wrap ((l0.length : Int) + 1)) = ji4 := (i64_w _).trans hji4
 by_cases c5 : 0 ≤ (ji4)
 ·rw [if_pos c5] at H
  have c5b0 := eq_true c5
  have c5b1 : decide (0 ≤ (ji4)) = true := decide_eq_true c5
  clear c5
  by_cases c6 : (ji4 : Int).toNat ≤ 11728124029610
  ·rw [if_pos c6] at H
   have c6b0 := eq_true c6
   have c6b1 : decide ((ji4 : Int).toNat ≤ 11728124029610) = true := decide_eq_true c6
   clear c6
   obtain ⟨y301, hy301⟩ : ∃ y_ : List (List Int), y_ = (List.replicate (ji4 : Int).toNat []) := ⟨_, rfl⟩
   replace H : (tattingref7_AheadB.l0 k l0 l1 l2 y301 0) = some r := by first | (rw [hy301]; with_reducible exact H) | (have H2_ := (Option.bind_some _ _).symm.trans H; rw [hy301]; with_reducible exact H2_) | (have H2_ := (Option.bind_some _ _).symm.trans H; with_reducible exact H2_) | with_reducible exact H | (rw [hy301]; exact H) | exact H
   have Ny301 := Aside0.mk hy301
   clear hy301
   have H' := Aside0.mk H
   clear H
   go_enter Try.func38, Try.ntmps38
   go_wp2_with (first | ((first | (with_reducible refine gate_callee (f := 19) rfl ?_); refine goesL_ (some 10) rfl rfl Try.func19 (by kernel_rfl) rfl #[.slice A0 l0.length c0] rfl (by (try simp only [List.map_toArray, List.map_cons, List.map_nil]); first | done | rfl | (simp only [List.length_drop, List.length_take]; rfl)) ?_ | go_at_call 19); (with_reducible refine (tattingref7_Turned.calls k _ _ l0 t292 _ ?side1 ?side2 A3.out).mono ?_); (case side1 => repeat (first | exact HR0.out | (with_reducible refine Kd.C_alloc ?_ _) | (with_reducible refine Kd.C_drewN ?_ _) | (with_reducible refine Kd.C_drew ?_))); (case side2 => exact HC0.out); rintro e w6 ⟨v293, rfl, ho0, hb⟩; (try refine ⟨_, rfl, ?_⟩); have n0_ := Aside0.mk (Kd.R_lower ho0 (below_size (by repeat (first | (with_reducible first | exact HB.out | apply below_alloc | apply pw_below_drewN | apply below_drew1) | exact HB.out)))); have n1_ := Aside0.mk (below_step (by repeat (first | (with_reducible first | exact HB.out | apply below_alloc | apply pw_below_drewN | apply below_drew1) | exact HB.out)) hb); clear HB; have HO294 := n0_; have HB := n1_; clear n0_ n1_; (try clear hb); (try clear hb2); (try clear hk); (try clear hi); (try clear ho0)) | ((first | (with_reducible refine gate_callee (f := 19) rfl ?_); refine goesL_ (some 12) rfl rfl Try.func19 (by kernel_rfl) rfl #[.slice A1 l1.length c1] rfl (by (try simp only [List.map_toArray, List.map_cons, List.map_nil]); first | done | rfl | (simp only [List.length_drop, List.length_take]; rfl)) ?_ | go_at_call 19); (with_reducible refine (tattingref7_Turned.calls k _ _ l1 t295 _ ?side1 ?side2 A4.out).mono ?_); (case side1 => repeat (first | exact (Kd.C_below HR1.out HB.out) | (with_reducible refine Kd.C_alloc ?_ _) | (with_reducible refine Kd.C_drewN ?_ _) | (with_reducible refine Kd.C_drew ?_))); (case side2 => exact HC1.out); rintro e w7 ⟨v296, rfl, ho0, hb⟩; (try refine ⟨_, rfl, ?_⟩); have n0_ := Aside0.mk (Kd.R_elder' (by (with_reducible repeat (first | apply Kd.R_alloc | apply Kd.R_drewN | apply Kd.R_drew)); exact HO294.out) (Kd.R_base ho0) hb); have n1_ := Aside0.mk (Kd.R_lower (Kd.R_new' ho0 (Kd.R_lt (by (with_reducible repeat (first | apply Kd.R_alloc | apply Kd.R_drewN | apply Kd.R_drew)); exact HO294.out))) (below_size (by repeat (first | (with_reducible first | exact HB.out | apply below_alloc | apply pw_below_drewN | apply below_drew1) | exact HB.out)))); have n2_ := Aside0.mk (below_step (by repeat (first | (with_reducible first | exact HB.out | apply below_alloc | apply pw_below_drewN | apply below_drew1) | exact HB.out)) hb); clear HO294; clear HB; have HO294 := n0_; have HO297 := n1_; have HB := n2_; clear n0_ n1_ n2_; (try clear hb); (try clear hb2); (try clear hk); (try clear hi); (try clear ho0); obtain ⟨Ao8, co8, eo8⟩ := Kd.R_slice HO294.out; subst eo8; obtain ⟨Ao9, co9, eo9⟩ := Kd.R_slice HO297.out; subst eo9) | ((first | (with_reducible refine gate_callee (f := 29) rfl ?_); refine goesL_ (some 13) rfl rfl Try.func29 (by kernel_rfl) rfl #[.slice Ao8 t292.length co8, .slice Ao9 t295.length co9] rfl (by (try simp only [List.map_toArray, List.map_cons, List.map_nil]); first | done | rfl | (simp only [List.length_drop, List.length_take]; rfl)) ?_ | go_at_call 29); (with_reducible refine (tattingref7_Behind.calls k _ _ t292 _ _ t295 l2 _ ?side1 ?side2 ?side3 ?side4 A5.out).mono ?_); (case side1 => repeat (first | exact (Kd.R_reads' HO294.out).2.2 | (with_reducible refine Kd.C_alloc ?_ _) | (with_reducible refine Kd.C_drewN ?_ _) | (with_reducible refine Kd.C_drew ?_))); (case side2 => exact (Kd.R_reads' HO294.out).2.1); (case side3 => repeat (first | exact (Kd.R_reads' HO297.out).2.2 | (with_reducible refine Kd.C_alloc ?_ _) | (with_reducible refine Kd.C_drewN ?_ _) | (with_reducible refine Kd.C_drew ?_))); (case side4 => exact (Kd.R_reads' HO297.out).2.1); rintro e w ⟨v299, rfl, ho0, hb⟩; (try refine ⟨_, rfl, ?_⟩); have n0_ := Aside0.mk (Kd.R_below (by (with_reducible repeat (first | apply Kd.R_alloc | apply Kd.R_drewN | apply Kd.R_drew)); exact HO294.out) hb); have n1_ := Aside0.mk (Kd.R_below (by (with_reducible repeat (first | apply Kd.R_alloc | apply Kd.R_drewN | apply Kd.R_drew)); exact HO297.out) hb); have n2_ := Aside0.mk (Kd.S_lower (Kd.S_new' (Kd.S_new' ho0 (Kd.R_lt (by (with_reducible repeat (first | apply Kd.R_alloc | apply Kd.R_drewN | apply Kd.R_drew)); exact HO294.out))) (Kd.R_lt (by (with_reducible repeat (first | apply Kd.R_alloc | apply Kd.R_drewN | apply Kd.R_drew)); exact HO297.out))) (below_size (by repeat (first | (with_reducible first | exact HB.out | apply below_alloc | apply pw_below_drewN | apply below_drew1) | exact HB.out)))); have n3_ := Aside0.mk (below_step (by repeat (first | (with_reducible first | exact HB.out | apply below_alloc | apply pw_below_drewN | apply below_drew1) | exact HB.out)) hb); clear HO294; clear HO297; clear HB; have HO294 := n0_; have HO297 := n1_; have HO300 := n2_; have HB := n3_; clear n0_ n1_ n2_ n3_; (try clear hb); (try clear hb2); (try clear hk); (try clear hi); (try clear ho0); obtain ⟨A2, c2, e2_⟩ := Kd.S_slice HO300.out; subst e2_; have HR2 := Aside0.mk (Kd.S_reads' HO300.out).2.2; have HC2 := Aside0.mk (Kd.S_reads' HO300.out).2.1; have n0_ := Aside0.mk (Kd.C_below HR0.out HB.out); have n1_ := Aside0.mk (Kd.C_below HR1.out HB.out); clear HR0 HR1; have HR0 := n0_; have HR1 := n1_; clear n0_ n1_; have HBW := HB; clear HB HO294 HO297 HO300; have HB := Aside0.mk (Below.refl w.heap.size w)) | ((with_reducible refine gate_dst (N := 17) rfl ?_); refine Kd.S_make (Kd.slice 3 (Kd.int .i64)) _ 26 rfl (N := 17) rfl 41 _ _ rfl ji4 rfl rfl Try.underlying41 (.slice none 0 0) 24 info26 rfl (by decide) (by omega) [] (ok := fun _ => True) (okp := fun _ => True) ⟨_, rfl, Kd.R_nil _ _ _ _ _⟩ (fun _ hk => hk) trivial (of_decide_eq_true (by first | (with_reducible assumption) | assumption)) (Nat.le_trans (Nat.mul_le_mul_right _ (of_decide_eq_true (by first | (with_reducible assumption) | assumption) : ji4.toNat ≤ 11728124029610)) (by omega)) (Below.refl _ _) (Nat.le_refl _) ?_; intro v302 w7 ho8 hb hg_ hnew_; (try clear hg_); (try clear hnew_); (first | rw [← Ny301.out] at ho8 | (simp only [Int.reduceToNat] at ho8; rw [← Ny301.out] at ho8)); have n0_ := Aside0.mk (Kd.S_lower ho8 (below_size (by repeat (first | (with_reducible first | exact HB.out | apply below_alloc | apply pw_below_drewN | apply below_drew1) | exact HB.out)))); have n1_ := Aside0.mk (below_step (by repeat (first | (with_reducible first | exact HB.out | apply below_alloc | apply pw_below_drewN | apply below_drew1) | exact HB.out)) hb); clear HB; have HO303 := n0_; have HB := n1_; clear n0_ n1_; (try clear hb); (try clear ho8)))
   go_loopg [7] k (fun kq v7 w' => ∃ (x6_1 : List (List Int)) (x7_1 : Int), v7 = .int .i64 x7_1 ∧ Aside0 (tattingref7_AheadB.l0 kq l0 l1 l2 x6_1 x7_1 = some r) ∧ Aside0 (kq ≤ k) ∧ Aside0 (Kd.S (Kd.slice 3 (Kd.int .i64)) 26 w' w.heap.size (fun _ => True) v302 x6_1) ∧ Aside0 (Below w.heap.size w w'))
   case atStart => exact ⟨(y301), (0), (by first | rfl | (simp; done) | (simp [*]; done)), H', ⟨Nat.le_refl _⟩, ⟨by (with_reducible repeat (first | apply Kd.S_alloc | apply Kd.S_drewN | apply Kd.S_drew)); exact HO303.out⟩, ⟨by repeat (first | (with_reducible first | exact HB.out | apply below_alloc | apply pw_below_drewN | apply below_drew1) | exact HB.out)⟩⟩
   case round =>
    clear H'
    try clear c1
    try clear c2
    try clear p2
    try clear c5
    try clear c5b0
    try clear c5b1
    try clear c6
    try clear c6b0
    try clear c6b1
    try clear p6
    obtain ⟨x6_1, x7_1, rfl, HA, HK1, HO_6, HB⟩ := hrel
    cases gk with
    | zero => exact absurd HA.out (by simp [tattingref7_AheadB.l0])
    | succ k1 =>
     have H := HA.out
     clear HA
     simp only [tattingref7_AheadB.l0] at H
     by_cases c9 : x7_1 ≤ (l0.length : Int)
     ·rw [if_pos c9] at H
      have c9b0 : decide (x7_1 ≤ (l0.length : Int)) = true := decide_eq_true c9
      clear c9
      obtain ⟨ji10, hji10⟩ : ∃ j_ : Int, (wrap64 ((l1.length : Int) + 1)) = j_ := ⟨_, rfl⟩
      replace H : (if 0 ≤ (ji10) then (if (ji10 : Int).toNat ≤ 35184372088832 then (if 0 ≤ x7_1 then (if x7_1 < (x6_1.length : Int) then (tattingref7_AheadB.l1 k1 l0 l1 l2 (x6_1.set (x7_1 : Int).toNat (List.replicate (ji10 : Int).toNat 0)) x7_1 0) else (none)) else (none)) else (none)) else (none)) = some r := by first | (rw [hji10] at H; exact H) | (simp only [hji10] at H ⊢; exact H)
      have hji10w : (IntKind.i64.wrap ((l1.length : Int) + 1)) = ji10 := (i64_w _).trans hji10
      by_cases c11 : 0 ≤ (ji10)
      ·rw [if_pos c11] at H
       have c11b0 := eq_true c11
       have c11b1 : decide (0 ≤ (ji10)) = true := decide_eq_true c11
       clear c11
       by_cases c12 : (ji10 : Int).toNat ≤ 35184372088832
       ·rw [if_pos c12] at H
        have c12b0 := eq_true c12
        have c12b1 : decide ((ji10 : Int).toNat ≤ 35184372088832) = true := decide_eq_true c12
        clear c12
        obtain ⟨y304, hy304⟩ : ∃ y_ : List Int, y_ = (List.replicate (ji10 : Int).toNat 0) := ⟨_, rfl⟩
        replace H : (if 0 ≤ x7_1 then (if x7_1 < (x6_1.length : Int) then (tattingref7_AheadB.l1 k1 l0 l1 l2 (x6_1.set (x7_1 : Int).toNat y304) x7_1 0) else (none)) else (none)) = some r := by first | (rw [hy304]; with_reducible exact H) | (have H2_ := (Option.bind_some _ _).symm.trans H; rw [hy304]; with_reducible exact H2_) | (have H2_ := (Option.bind_some _ _).symm.trans H; with_reducible exact H2_) | with_reducible exact H | (rw [hy304]; exact H) | exact H
        have Ny304 := Aside0.mk hy304
        clear hy304
        by_cases c13 : 0 ≤ x7_1
        ·rw [if_pos c13] at H
         have c13b0 : decide (0 ≤ x7_1) = true := decide_eq_true c13
         clear c13
         by_cases c14 : x7_1 < (x6_1.length : Int)
         ·rw [if_pos c14] at H
          have c14b0 : decide (x7_1 < (x6_1.length : Int)) = true := decide_eq_true c14
          clear c14
          obtain ⟨y307, hy307⟩ : ∃ y_ : List (List Int), y_ = (x6_1.set (x7_1 : Int).toNat y304) := ⟨_, rfl⟩
          replace H : (tattingref7_AheadB.l1 k1 l0 l1 l2 y307 x7_1 0) = some r := by first | (rw [hy307]; with_reducible exact H) | (have H2_ := (Option.bind_some _ _).symm.trans H; rw [hy307]; with_reducible exact H2_) | (have H2_ := (Option.bind_some _ _).symm.trans H; with_reducible exact H2_) | with_reducible exact H | (rw [hy307]; exact H) | exact H
          have Ny307 := Aside0.mk hy307
          clear hy307
          have H' := Aside0.mk H
          clear H
          go_wp2_with (first | ((with_reducible refine gate_dst (N := 29) rfl ?_); refine Kd.R_make (Kd.int .i64) _ 3 rfl (N := 29) rfl 26 _ _ rfl ji10 rfl rfl Try.underlying26 (.int .i64 0) 8 info3 rfl (by decide) (by omega) 0 (ok := fun _ => True) (okp := fun _ => True) rfl (fun _ hk => hk) trivial (of_decide_eq_true (by first | (with_reducible assumption) | assumption)) (Nat.le_trans (Nat.mul_le_mul_right _ (of_decide_eq_true (by first | (with_reducible assumption) | assumption) : ji10.toNat ≤ 35184372088832)) (by omega)) (Below.refl _ _) (Nat.le_refl _) ?_; intro v305 w16 ho17 hb hg_ hnew_; (try clear hg_); (try clear hnew_); (first | rw [← Ny304.out] at ho17 | (simp only [Int.reduceToNat] at ho17; rw [← Ny304.out] at ho17)); have n0_ := Aside0.mk (Kd.S_elder' (by (with_reducible repeat (first | apply Kd.S_alloc | apply Kd.S_drewN | apply Kd.S_drew)); exact HO_6.out) (Kd.R_base ho17) hb); have n1_ := Aside0.mk (Kd.R_lower ho17 (below_size (by repeat (first | (with_reducible first | exact HB.out | apply below_alloc | apply pw_below_drewN | apply below_drew1) | exact HB.out)))); have n2_ := Aside0.mk (below_step (by repeat (first | (with_reducible first | exact HB.out | apply below_alloc | apply pw_below_drewN | apply below_drew1) | exact HB.out)) hb); clear HO_6; clear HB; have HO_6 := n0_; have HO306 := n1_; have HB := n2_; clear n0_ n1_ n2_; (try clear hb); (try clear ho17); have p15 : 0 ≤ (x7_1 : Int) := of_decide_eq_true (by first | (with_reducible assumption) | assumption); have q15 : (x7_1 : Int) < ((x6_1.length : Int) : Int) := of_decide_eq_true (by first | (with_reducible assumption) | assumption); obtain ⟨go15, co15, eo15, gb15, gl15, cl15, HG15⟩ := Kd.S_form HO_6.out (by omega); (first | cases eo15 | (injection eo15 with ea_ en_ ec_; (first | subst ea_ | (injection ea_ with ea_; subst ea_)); subst ec_; clear en_)); have GB15 := Aside0.mk gb15; have GG15 := Aside0.mk HG15; clear gb15 gl15 HG15; obtain ⟨_, ce15, hcl15, hM15, hcc15, hfr15, _, _⟩ := Kd.S_elem HO_6.out [] (x7_1 : Int) p15 q15; obtain ⟨ve15_0, rfl, ge15_0⟩ := hM15; have hx15_0 := hcc15 0 _ rfl; have hf15_0 := hfr15 0; (try simp only [show ((Kd.slice 3 (Kd.int .i64))).sz = 1 from rfl, Nat.mul_one, Nat.add_zero] at hx15_0); (try simp only [show ((Kd.slice 3 (Kd.int .i64))).sz = 1 from rfl, Nat.mul_one, Nat.add_zero] at hf15_0); (try clear hcl15); (try clear hcc15); (try clear hfr15); (try clear hM15); replace p15 := eq_true p15; replace q15 := eq_true q15; have n_ := Aside0.mk (Kd.S_mono (ok' := (fun k_ => some k_ ≠ (v305 : Value).ownBlock)) HO_6.out (fun k_ hk => hk.2)); clear HO_6; have HO_6 := n_; clear n_; have HX18 := Aside0.mk (show Kd.S (Kd.slice 3 (Kd.int .i64)) 26 w16 w.heap.size (fun k_ => ((fun _ => True)) k_ ∧ ¬ ((fun k_ => some k_ = (v305 : Value).ownBlock)) k_) (.slice (some ⟨go15, 0, none⟩) x6_1.length co15) x6_1 from (by (with_reducible repeat (first | apply Kd.S_alloc | apply Kd.S_drewN | apply Kd.S_drew)); exact Kd.S_mono HO_6.out (fun k_ hk => ⟨trivial, fun e_ => hk e_⟩))); obtain ⟨oki18, ce18, hcl18, hM18, hcc18, hfr18, hoki18, hH18⟩ := Kd.S_elem HX18.out [] (x7_1 : Int) (of_decide_eq_true (by first | (with_reducible assumption) | assumption)) (by have h_ : (x7_1 : Int) < ((x6_1.length : Int) : Int) := of_decide_eq_true (by first | (with_reducible assumption) | assumption); first | exact h_ | (have e_ := (Kd.S_reads' HO_6.out).1; omega) | simpa using h_); obtain ⟨ve18_0, rfl, ge18_0⟩ := hM18; have HP18 := Kd.S_seg hH18 (of_decide_eq_true (by first | (with_reducible assumption) | assumption)) (by have h_ : (x7_1 : Int) < ((x6_1.length : Int) : Int) := of_decide_eq_true (by first | (with_reducible assumption) | assumption); first | exact h_ | (have e_ := (Kd.S_reads' HO_6.out).1; omega) | simpa using h_) (seg := [v305]) (j := 0) (show 1 ≤ 1 from by decide) (x' := y304) (Kd.M_row (Kd.R_mono (Kd.R_tight rfl (Kd.R_mono (ok' := fun k_ => ((fun _ => True)) k_ ∧ k_ ≠ go15) (Kd.R_apart' (HO306.out) (Kd.S_typed HO_6.out) (by decide)) (fun k_ hk => ⟨trivial, fun e_ => (hk.2) (by rw [e_]; rfl)⟩))) (fun _ h_ => Or.inr (h_)))) (fun _ hk => hk) (fun k_ hk_ => ((Kd.R_mono (ok' := fun k_ => ((fun _ => True)) k_ ∧ k_ ≠ go15) (Kd.R_apart' (HO306.out) (Kd.S_typed HO_6.out) (by decide)) (fun k_ hk => ⟨trivial, fun e_ => (hk.2) (by rw [e_]; rfl)⟩))).1 k_ hk_.symm); have hx18_0 := hcc18 0 _ rfl; (try simp only [show ((Kd.slice 3 (Kd.int .i64))).sz = 1 from rfl, Nat.mul_one, Nat.add_zero] at hx18_0); have hf18_0 := hfr18 0; (try simp only [show ((Kd.slice 3 (Kd.int .i64))).sz = 1 from rfl, Nat.mul_one, Nat.add_zero] at hf18_0); (try clear hcl18); (try clear hcc18); (try clear hfr18); (try clear hM18); (try clear hoki18); (try clear hH18); (try simp only [show ((Kd.slice 3 (Kd.int .i64))).sz = 1 from rfl, Nat.mul_one, Nat.add_zero] at HP18)) | ((with_reducible refine gate_store (t := 26) (p := 30) rfl ?_); refine store_event (t := 26) (p := 30) (v := ?vo_w19) (w1 := (w16.setCell ⟨go15, (x7_1 : Int).toNat, none⟩ (v305))) ?hg ?ho ?hn ?hr ?_; (case ho => rfl); (case hg => rfl); (case hn => rfl); (case hr => first | (go_simp; done) | (go_simp; rfl) | (obtain ⟨A_, c_, e_⟩ := Kd.R_slice HO306.out; subst e_; go_simp; first | done | rfl)); intro w19 hw; have hg : w16.grownBy w19 (some go15) := (by rw [hw]; exact HP18.2); have hp_ : Kd.S (Kd.slice 3 (Kd.int .i64)) 26 w19 w.heap.size (fun _ => True) (.slice (some ⟨go15, 0, none⟩) x6_1.length co15) y307 := (by rw [hw, Ny307.out]; exact HP18.1); clear HP18; have n0_ := Aside0.mk (hp_); have n1_ := Aside0.mk ((by rw [hw]; exact below_set (HB.out) GB15.out : Below w.heap.size w w19)); clear HO_6; clear HB; clear HO306; have HO_6 := n0_; have HB := n1_; clear n0_ n1_; (try clear hg); (try clear hw); (try clear hp_)))
          go_loopg [8] k1 (fun kq v8 w' => ∃ (x6_2 : List (List Int)) (x8_2 : Int), v8 = .int .i64 x8_2 ∧ Aside0 (tattingref7_AheadB.l1 kq l0 l1 l2 x6_2 x7_1 x8_2 = some r) ∧ Aside0 (kq ≤ k1) ∧ Aside0 (Kd.S (Kd.slice 3 (Kd.int .i64)) 26 w' w.heap.size (fun _ => True) (.slice (some ⟨go15, 0, none⟩) x6_1.length co15) x6_2) ∧ Aside0 (Below w.heap.size w w'))
          case atStart => exact ⟨(y307), (0), (by first | rfl | (simp; done) | (simp [*]; done)), H', ⟨Nat.le_refl _⟩, ⟨by (with_reducible repeat (first | apply Kd.S_alloc | apply Kd.S_drewN | apply Kd.S_drew)); exact HO_6.out⟩, ⟨by repeat (first | (with_reducible first | exact HB.out | apply below_alloc | apply pw_below_drewN | apply below_drew1) | exact HB.out)⟩⟩
          case round =>
           clear H'
           try clear c1
           try clear p1
           try clear q1
           try clear hx1
           try clear c2
           try clear p2
           try clear c5
           try clear c5b0
           try clear c5b1
           try clear c6
           try clear c6b0
           try clear c6b1
           try clear p6
           try clear c9
           try clear c9b0
           try clear c11
           try clear c11b0
           try clear c11b1
           try clear c12
           try clear c12b0
           try clear c12b1
           try clear c13
           try clear c13b0
           try clear c14
           try clear c14b0
           try clear c15
           try clear p15
           try clear q15
           try clear hx15
           try clear hf15
           try clear c18
           try clear hx18
           try clear hf18
           try clear hx15_0
           try clear hx18_0
           try clear p15
           try clear p2
           try clear p6
           try clear q15
           obtain ⟨x6_2, x8_2, rfl, HA, HK2, HO_6, HB⟩ := hrel
           have hl6_2 := (Kd.S_reads' HO_6.out).1
           rw [hl6_2] at HO_6
           (try simp only [hl6_2])
           cases gk with
           | zero => exact absurd HA.out (by simp [tattingref7_AheadB.l1])
           | succ k2 =>
            have H := HA.out
            clear HA
            simp only [tattingref7_AheadB.l1] at H
            by_cases c20 : x8_2 ≤ (l1.length : Int)
            ·rw [if_pos c20] at H
             have c20b0 : decide (x8_2 ≤ (l1.length : Int)) = true := decide_eq_true c20
             try (have c20b0zhl6_2 := c20b0; rw [hl6_2] at c20b0zhl6_2)
             clear c20
             by_cases c21 : 0 ≤ x7_1
             ·rw [if_pos c21] at H
              have c21b0 : decide (0 ≤ x7_1) = true := decide_eq_true c21
              clear c21
              by_cases c22 : x7_1 < (x6_2.length : Int)
              ·rw [if_pos c22] at H
               have c22b0 : decide (x7_1 < (x6_2.length : Int)) = true := decide_eq_true c22
               try (have c22b0zhl6_2 := c22b0; rw [hl6_2] at c22b0zhl6_2)
               clear c22
               obtain ⟨ji23, hji23⟩ : ∃ j_ : Int, (wrap64 ((l0.length : Int) - x7_1)) = j_ := ⟨_, rfl⟩
               replace H : (if 0 ≤ (ji23) then (if (ji23) < (l2.length : Int) then (if 0 ≤ (wrap64 ((l1.length : Int) - x8_2)) then (if (wrap64 ((l1.length : Int) - x8_2)) < ((rd_L2 l2 (ji23)).length : Int) then (if 0 ≤ x8_2 then (if x8_2 < ((rd_L2 x6_2 x7_1).length : Int) then (tattingref7_AheadB.l1 k2 l0 l1 l2 (x6_2.set (x7_1 : Int).toNat ((rd_L2 x6_2 x7_1).set (x8_2 : Int).toNat (rd (rd_L2 l2 (ji23)) (wrap64 ((l1.length : Int) - x8_2))))) x7_1 (wrap64 (x8_2 + 1))) else (none)) else (none)) else (none)) else (none)) else (none)) else (none)) = some r := by first | (rw [hji23] at H; exact H) | (simp only [hji23] at H ⊢; exact H)
               have hji23w : (IntKind.i64.wrap ((l0.length : Int) - x7_1)) = ji23 := (i64_w _).trans hji23
               by_cases c24 : 0 ≤ (ji23)
               ·rw [if_pos c24] at H
                have c24b0 : decide (0 ≤ (ji23)) = true := decide_eq_true c24
                clear c24
                by_cases c25 : (ji23) < (l2.length : Int)
                ·rw [if_pos c25] at H
                 have c25b0 : decide ((ji23) < (l2.length : Int)) = true := decide_eq_true c25
                 try (have c25b0zhl6_2 := c25b0; rw [hl6_2] at c25b0zhl6_2)
                 clear c25
                 obtain ⟨ji26, hji26⟩ : ∃ j_ : Int, (wrap64 ((l1.length : Int) - x8_2)) = j_ := ⟨_, rfl⟩
                 replace H : (if 0 ≤ (ji26) then (if (ji26) < ((rd_L2 l2 (ji23)).length : Int) then (if 0 ≤ x8_2 then (if x8_2 < ((rd_L2 x6_2 x7_1).length : Int) then (tattingref7_AheadB.l1 k2 l0 l1 l2 (x6_2.set (x7_1 : Int).toNat ((rd_L2 x6_2 x7_1).set (x8_2 : Int).toNat (rd (rd_L2 l2 (ji23)) (ji26)))) x7_1 (wrap64 (x8_2 + 1))) else (none)) else (none)) else (none)) else (none)) = some r := by first | (rw [hji26] at H; exact H) | (simp only [hji26] at H ⊢; exact H)
                 have hji26w : (IntKind.i64.wrap ((l1.length : Int) - x8_2)) = ji26 := (i64_w _).trans hji26
                 by_cases c27 : 0 ≤ (ji26)
                 ·rw [if_pos c27] at H
                  have c27b0 : decide (0 ≤ (ji26)) = true := decide_eq_true c27
                  clear c27
                  by_cases c28 : (ji26) < ((rd_L2 l2 (ji23)).length : Int)
                  ·rw [if_pos c28] at H
                   have c28b0 : decide ((ji26) < ((rd_L2 l2 (ji23)).length : Int)) = true := decide_eq_true c28
                   try (have c28b0zhl6_2 := c28b0; rw [hl6_2] at c28b0zhl6_2)
                   clear c28
                   by_cases c29 : 0 ≤ x8_2
                   ·rw [if_pos c29] at H
                    have c29b0 : decide (0 ≤ x8_2) = true := decide_eq_true c29
                    clear c29
                    by_cases c30 : x8_2 < ((rd_L2 x6_2 x7_1).length : Int)
                    ·rw [if_pos c30] at H
                     have c30b0 : decide (x8_2 < ((rd_L2 x6_2 x7_1).length : Int)) = true := decide_eq_true c30
                     try (have c30b0zhl6_2 := c30b0; rw [hl6_2] at c30b0zhl6_2)
                     clear c30
                     obtain ⟨y311, hy311⟩ : ∃ y_ : List Int, y_ = ((rd_L2 x6_2 x7_1).set (x8_2 : Int).toNat (rd (rd_L2 l2 (ji23)) (ji26))) := ⟨_, rfl⟩
                     replace H : (tattingref7_AheadB.l1 k2 l0 l1 l2 (x6_2.set (x7_1 : Int).toNat y311) x7_1 (wrap64 (x8_2 + 1))) = some r := by first | (rw [hy311]; with_reducible exact H) | (have H2_ := (Option.bind_some _ _).symm.trans H; rw [hy311]; with_reducible exact H2_) | (have H2_ := (Option.bind_some _ _).symm.trans H; with_reducible exact H2_) | with_reducible exact H | (rw [hy311]; exact H) | exact H
                     have Ny311 := Aside0.mk hy311
                     clear hy311
                     obtain ⟨y313, hy313⟩ : ∃ y_ : List (List Int), y_ = (x6_2.set (x7_1 : Int).toNat y311) := ⟨_, rfl⟩
                     replace H : (tattingref7_AheadB.l1 k2 l0 l1 l2 y313 x7_1 (wrap64 (x8_2 + 1))) = some r := by first | (rw [hy313]; with_reducible exact H) | (have H2_ := (Option.bind_some _ _).symm.trans H; rw [hy313]; with_reducible exact H2_) | (have H2_ := (Option.bind_some _ _).symm.trans H; with_reducible exact H2_) | with_reducible exact H | (rw [hy313]; exact H) | exact H
                     have Ny313 := Aside0.mk hy313
                     clear hy313
                     have H' := Aside0.mk H
                     clear H
                     try go_wp2
                     have n0_ := Aside0.mk (Kd.S_drew HO_6.out)
                     have n1_ := Aside0.mk (below_drew1 HB.out)
                     clear HO_6
                     clear HB
                     have HO_6 := n0_
                     have HB := n1_
                     clear n0_ n1_
                     have p308 : 0 ≤ (x7_1 : Int) := of_decide_eq_true (by first | (with_reducible assumption) | assumption)
                     have q308 : x7_1 < (x6_2.length : Int) := of_decide_eq_true (by first | (with_reducible assumption) | assumption)
                     try (obtain ⟨Ap308, cp308, ep308⟩ := Kd.S_slice HO_6.out; subst ep308)
                     obtain ⟨ad308, A308_0, c308_0, e308, hx308_0, hl308_0, hi308_0⟩ := at_L2 (Kd.S_reads' HO_6.out).2.2 x7_1 p308 q308
                     obtain rfl : (⟨go15, 0, none⟩ : Addr) = ad308 := (by injection e308)
                     obtain ⟨ce308, hce308, hMe308, hcc308⟩ := Kd.S_get HO_6.out [] x7_1 p308 (by first | exact q308 | exact of_decide_eq_true (by first | (with_reducible assumption) | assumption) | (have e_ := (Kd.S_reads' HO_6.out).1; omega))
                     obtain ⟨ve308_0, rfl, ge308_0⟩ := hMe308
                     have hv308_0 := hcc308 0 _ rfl
                     rw [Nat.add_zero, show ((Kd.slice 3 (Kd.int .i64))).sz = 1 from rfl, Nat.mul_one] at hv308_0
                     replace hv308_0 := Option.some.inj (hv308_0.symm.trans hx308_0)
                     rw [hv308_0] at ge308_0
                     have HL308_0 := Aside0.mk (show Kd.R (Kd.int .i64) 3 _ _ _ _ (rd_L2 x6_2 x7_1) from ge308_0)
                     clear hv308_0 ge308_0
                     have HX308_0 := Aside0.mk hx308_0
                     clear hcc308 hce308
                     (first | simp only [add_plain] at hx308_0 | simp only [add_at] at hx308_0 | simp only [Addr.add, Nat.zero_add] at hx308_0 | skip)
                     have HR308_0 := Aside0.mk hi308_0
                     have HC308_0 := Aside0.mk hl308_0
                     clear hi308_0 hl308_0
                     replace p308 := eq_true p308
                     replace q308 := eq_true q308
                     have p309 : 0 ≤ ((ji23) : Int) := of_decide_eq_true (by first | (with_reducible assumption) | assumption)
                     have q309 : (ji23) < (l2.length : Int) := of_decide_eq_true (by first | (with_reducible assumption) | assumption)
                     obtain ⟨ad309, A309_0, c309_0, e309, hx309_0, hl309_0, hi309_0⟩ := at_L2 HR2.out (ji23) p309 q309
                     have hw309_0 := hx309_0
                     cases e309
                     replace hx309_0 := (HB.out.cell (World.block_lt_of_cell? w _ hx309_0)).trans hx309_0
                     have HR309_0 := Aside0.mk hi309_0
                     have HC309_0 := Aside0.mk hl309_0
                     clear hi309_0 hl309_0
                     replace p309 := eq_true p309
                     replace q309 := eq_true q309
                     have p310 : 0 ≤ ((ji26) : Int) := of_decide_eq_true (by first | (with_reducible assumption) | assumption)
                     have q310 : (ji26) < ((rd_L2 l2 (ji23)).length : Int) := of_decide_eq_true (by first | (with_reducible assumption) | assumption)
                     obtain ⟨ad310, e310, hx310_0⟩ := Kd.at_int HR309_0.out (ji26) p310 q310
                     have hw310_0 := hx310_0
                     cases e310
                     replace hx310_0 := (HB.out.cell (World.block_lt_of_cell? w _ hx310_0)).trans hx310_0
                     replace p310 := eq_true p310
                     replace q310 := eq_true q310
                     have p31 : 0 ≤ (x8_2 : Int) := of_decide_eq_true (by first | (with_reducible assumption) | assumption)
                     have q31 : (x8_2 : Int) < (((rd_L2 x6_2 x7_1).length : Int) : Int) := of_decide_eq_true (by first | (with_reducible assumption) | assumption)
                     obtain ⟨go31, co31, eo31, gb31, gl31, cl31, HG31⟩ := Kd.R_form HL308_0.out (by omega)
                     (first | cases eo31 | (injection eo31 with ea_ en_ ec_; (first | subst ea_ | (injection ea_ with ea_; subst ea_)); subst ec_; clear en_))
                     have GB31 := Aside0.mk gb31
                     have GG31 := Aside0.mk HG31
                     clear gb31 gl31 HG31
                     obtain ⟨hx31_0, hf31_0⟩ := Kd.R_celln 0 HL308_0.out (x8_2 : Int) p31 q31
                     replace p31 := eq_true p31
                     replace q31 := eq_true q31
                     have hq33 : (x7_1 : Int) < (x6_2.length : Int) := (by have h_ : (x7_1 : Int) < ((x6_2.length : Int) : Int) := of_decide_eq_true (by first | (with_reducible assumption) | assumption); first | exact h_ | (have e_ := (Kd.S_reads' HO_6.out).1; omega) | simpa only [List.length_set, List.length_set] using h_)
                     obtain ⟨oki33, ce33, hcl33, hM33, hcc33, hok33, hbk33⟩ := Kd.S_borrow HO_6.out [] (x7_1 : Int) (of_decide_eq_true (by first | (with_reducible assumption) | assumption)) hq33
                     obtain ⟨ve33_0, rfl, ge33_0⟩ := hM33
                     have hv33 := hcc33 0 _ rfl
                     rw [Nat.add_zero, show ((Kd.slice 3 (Kd.int .i64))).sz = 1 from rfl, Nat.mul_one] at hv33
                     replace hv33 := Option.some.inj (hv33.symm.trans HX308_0.out)
                     subst hv33
                     clear hcc33 hcl33
                     replace ge33_0 := (show Kd.R (Kd.int .i64) 3 _ _ _ _ (rd_L2 x6_2 x7_1) from ge33_0)
                     have HP33 := Kd.R_putg ge33_0 (x8_2 : Int) (rd (rd_L2 l2 (ji23)) (ji26))
                     rw [← Ny311.out] at HP33
                     have HS33 := hbk33 HP33.2 (fun k_ e_ => by injection e_ with e_; subst e_; exact ge33_0.1 _ rfl) (x' := y311) (Kd.M_row HP33.1)
                     rw [← Ny313.out] at HS33
                     have HQ33 := Aside0.mk HS33
                     clear HP33 HS33 hbk33 hok33
                     refine start_ (n := 20) (S := fun w' => w'.cell? ⟨go15, (x7_1).toNat, none⟩ = some (.slice (some ⟨go31, 0, none⟩) (rd_L2 x6_2 x7_1).length c308_0) ∧ w'.cell? (ad309.add ((ji23)).toNat) = some (.slice (some ad310) (rd_L2 l2 (ji23)).length c309_0) ∧ w'.cell? (ad310.add ((ji26)).toNat) = some (.int .i64 (rd (rd_L2 l2 (ji23)) (ji26)))) (ds := [19]) #[N,N,N,N,N,N,N,N,N,N,N,N,N,N,N,N,N,N,N,N] (by kernel_rfl) rfl rfl ⟨hx308_0, ((HB.out.cell (World.block_lt_of_cell? w _ hw309_0)).trans hw309_0), ((HB.out.cell (World.block_lt_of_cell? w _ hw310_0)).trans hw310_0)⟩ (fun hHeld => ?_); refine with_tabW tattingref7_AheadB.tab10 tattingref7_AheadB.bits10 (fun HT_ HW_ => ?_)
                     generalize wr.drew = w32 at HO_6 HB GG31 HL308_0 HQ33 HR308_0 HR309_0 HX308_0 hf31_0 hx308_0 hx309_0 hx310_0 hx31_0 hHeld ⊢
                     refine pure_ (i := 0) (N := some 37) (v := ?_) (a' := ?_) #[Y,N,N,N,N,N,N,N,N,N,N,N,N,N,N,N,N,N,N,N] rfl rfl (any_of HT_.out (by kernel_rfl)) (fun _ _ _ h => h) (Or.inl ⟨by rfl, ?_⟩) ?_ ?_; rotate_left
                     ·intro w'; go_simp; with_reducible rfl
                     rotate_left
                     ·simp only [Act.put, sA,sB,sC, i64_w, i32_w]; rfl
                     refine pure_ (i := 1) (N := some 38) (v := ?_) (a' := ?_) #[Y,Y,N,N,N,N,N,N,N,N,N,N,N,N,N,N,N,N,N,N] rfl rfl (any_of HT_.out (by kernel_rfl)) (fun _ _ _ h => h) (Or.inl ⟨by rfl, ?_⟩) ?_ ?_; rotate_left
                     ·intro w'; go_simp; with_reducible rfl
                     rotate_left
                     ·simp only [Act.put, sA,sB,sC, i64_w, i32_w]; rfl
                     refine pure_ (i := 2) (N := some 39) (v := ?_) (a' := ?_) #[Y,Y,Y,N,N,N,N,N,N,N,N,N,N,N,N,N,N,N,N,N] rfl rfl (any_of HT_.out (by kernel_rfl)) (fun _ _ _ h => h) (Or.inl ⟨by rfl, ?_⟩) ?_ ?_; rotate_left
                     ·intro w'; go_simp; with_reducible rfl
                     rotate_left
                     ·simp only [Act.put, sA,sB,sC, i64_w, i32_w]; rfl
                     refine pure_ (i := 4) (N := some 41) (v := ?_) (a' := ?_) #[Y,Y,Y,N,Y,N,N,N,N,N,N,N,N,N,N,N,N,N,N,N] rfl rfl (any_of HT_.out (by kernel_rfl)) (fun _ _ _ h => h) (Or.inl ⟨by rfl, ?_⟩) ?_ ?_; rotate_left
                     ·intro w'; go_simp; with_reducible rfl
                     rotate_left
                     ·simp only [Act.put, sA,sB,sC, i64_w, i32_w]; rfl
                     refine pure_ (i := 5) (N := some 42) (v := ?_) (a' := ?_) #[Y,Y,Y,N,Y,Y,N,N,N,N,N,N,N,N,N,N,N,N,N,N] rfl rfl (any_of HT_.out (by kernel_rfl)) (fun _ _ _ h => h) (Or.inl ⟨by rfl, ?_⟩) ?_ ?_; rotate_left
                     ·intro w'; go_simp; with_reducible rfl
                     rotate_left
                     ·simp only [Act.put, sA,sB,sC, i64_w, i32_w]; rfl
                     refine pure_ (i := 6) (N := some 43) (v := ?_) (a' := ?_) #[Y,Y,Y,N,Y,Y,Y,N,N,N,N,N,N,N,N,N,N,N,N,N] rfl rfl (any_of HT_.out (by kernel_rfl)) (fun _ _ _ h => h) (Or.inl ⟨by rfl, ?_⟩) ?_ ?_; rotate_left
                     ·intro w'; go_simp; with_reducible rfl
                     rotate_left
                     ·simp only [Act.put, sA,sB,sC, i64_w, i32_w]; rfl
                     refine pure_ (i := 7) (N := some 44) (v := ?_) (a' := ?_) #[Y,Y,Y,N,Y,Y,Y,Y,N,N,N,N,N,N,N,N,N,N,N,N] rfl rfl (any_of HT_.out (by kernel_rfl)) (fun _ _ _ h => h) (Or.inl ⟨by rfl, ?_⟩) ?_ ?_; rotate_left
                     ·intro w'; go_simp; with_reducible rfl
                     rotate_left
                     ·simp only [Act.put, sA,sB,sC, i64_w, i32_w]; rfl
                     refine pure_ (i := 8) (N := some 45) (v := ?_) (a' := ?_) #[Y,Y,Y,N,Y,Y,Y,Y,Y,N,N,N,N,N,N,N,N,N,N,N] rfl rfl (any_of HT_.out (by kernel_rfl)) (fun _ _ _ h => h) (Or.inl ⟨by rfl, ?_⟩) ?_ ?_; rotate_left
                     ·intro w'; go_simp; with_reducible rfl
                     rotate_left
                     ·simp only [Act.put, sA,sB,sC, i64_w, i32_w]; rfl
                     refine pure_ (i := 9) (N := some 46) (v := ?_) (a' := ?_) #[Y,Y,Y,N,Y,Y,Y,Y,Y,Y,N,N,N,N,N,N,N,N,N,N] rfl rfl (any_of HT_.out (by kernel_rfl)) (fun _ _ _ h => h) (Or.inl ⟨by rfl, ?_⟩) ?_ ?_; rotate_left
                     ·intro w'; go_simp; with_reducible rfl
                     rotate_left
                     ·simp only [Act.put, sA,sB,sC, i64_w, i32_w]; rfl
                     refine pure_ (i := 10) (N := some 47) (v := ?_) (a' := ?_) #[Y,Y,Y,N,Y,Y,Y,Y,Y,Y,Y,N,N,N,N,N,N,N,N,N] rfl rfl (any_of HT_.out (by kernel_rfl)) (fun _ _ _ h => h) (Or.inl ⟨by rfl, ?_⟩) ?_ ?_; rotate_left
                     ·intro w'; go_simp; with_reducible rfl
                     rotate_left
                     ·simp only [Act.put, sA,sB,sC, i64_w, i32_w]; rfl
                     refine pure_ (i := 12) (N := some 49) (v := ?_) (a' := ?_) #[Y,Y,Y,N,Y,Y,Y,Y,Y,Y,Y,N,Y,N,N,N,N,N,N,N] rfl rfl (any_of HT_.out (by kernel_rfl)) (fun _ _ _ h => h) (Or.inl ⟨by rfl, ?_⟩) ?_ ?_; rotate_left
                     ·intro w'; go_simp; with_reducible rfl
                     rotate_left
                     ·simp only [Act.put, sA,sB,sC, i64_w, i32_w]; rfl
                     refine pure_ (i := 13) (N := some 50) (v := ?_) (a' := ?_) #[Y,Y,Y,N,Y,Y,Y,Y,Y,Y,Y,N,Y,Y,N,N,N,N,N,N] rfl rfl (any_of HT_.out (by kernel_rfl)) (fun _ _ _ h => h) (Or.inl ⟨by rfl, ?_⟩) ?_ ?_; rotate_left
                     ·intro w'; go_simp; with_reducible rfl
                     rotate_left
                     ·simp only [Act.put, sA,sB,sC, i64_w, i32_w]; rfl
                     refine pure_ (i := 14) (N := some 51) (v := ?_) (a' := ?_) #[Y,Y,Y,N,Y,Y,Y,Y,Y,Y,Y,N,Y,Y,Y,N,N,N,N,N] rfl rfl (any_of HT_.out (by kernel_rfl)) (fun _ _ _ h => h) (Or.inl ⟨by rfl, ?_⟩) ?_ ?_; rotate_left
                     ·intro w'; go_simp; with_reducible rfl
                     rotate_left
                     ·simp only [Act.put, sA,sB,sC, i64_w, i32_w]; rfl
                     refine pure_ (i := 15) (N := some 52) (v := ?_) (a' := ?_) #[Y,Y,Y,N,Y,Y,Y,Y,Y,Y,Y,N,Y,Y,Y,Y,N,N,N,N] rfl rfl (any_of HT_.out (by kernel_rfl)) (fun _ _ _ h => h) (Or.inl ⟨by rfl, ?_⟩) ?_ ?_; rotate_left
                     ·intro w'; go_simp; with_reducible rfl
                     rotate_left
                     ·simp only [Act.put, sA,sB,sC, i64_w, i32_w]; rfl
                     refine take_ (i := 3) (N := some 40) (v := ?_) (a' := ?_) #[Y,Y,Y,Y,Y,Y,Y,Y,Y,Y,Y,N,Y,Y,Y,Y,N,N,N,N] rfl rfl (take_ofW HT_.out HW_.out (by kernel_rfl)) (fun _ _ _ h => h) (Or.inl ⟨by rfl, ?_⟩) hHeld ?_ ?_; rotate_left
                     ·rintro w' ⟨s0, s1, s2⟩; go_simp; with_reducible rfl
                     rotate_left
                     ·simp only [Act.put, sA,sB,sC, i64_w, i32_w]; rfl
                     refine take_ (i := 11) (N := some 48) (v := ?_) (a' := ?_) #[Y,Y,Y,Y,Y,Y,Y,Y,Y,Y,Y,Y,Y,Y,Y,Y,N,N,N,N] rfl rfl (take_ofW HT_.out HW_.out (by kernel_rfl)) (fun _ _ _ h => h) (Or.inl ⟨by rfl, ?_⟩) hHeld ?_ ?_; rotate_left
                     ·rintro w' ⟨s0, s1, s2⟩; go_simp; with_reducible rfl
                     rotate_left
                     ·simp only [Act.put, sA,sB,sC, i64_w, i32_w]; rfl
                     refine pure_ (i := 16) (N := some 53) (v := ?_) (a' := ?_) #[Y,Y,Y,Y,Y,Y,Y,Y,Y,Y,Y,Y,Y,Y,Y,Y,Y,N,N,N] rfl rfl (any_of HT_.out (by kernel_rfl)) (fun _ _ _ h => h) (Or.inl ⟨by rfl, ?_⟩) ?_ ?_; rotate_left
                     ·intro w'; go_simp; with_reducible rfl
                     rotate_left
                     ·simp only [Act.put, sA,sB,sC, i64_w, i32_w]; rfl
                     refine take_ (i := 17) (N := some 54) (v := ?_) (a' := ?_) #[Y,Y,Y,Y,Y,Y,Y,Y,Y,Y,Y,Y,Y,Y,Y,Y,Y,Y,N,N] rfl rfl (take_ofW HT_.out HW_.out (by kernel_rfl)) (fun _ _ _ h => h) (Or.inl ⟨by rfl, ?_⟩) hHeld ?_ ?_; rotate_left
                     ·rintro w' ⟨s0, s1, s2⟩; go_simp; with_reducible rfl
                     rotate_left
                     ·simp only [Act.put, sA,sB,sC, i64_w, i32_w]; rfl
                     refine pure_ (i := 18) (N := some 55) (v := ?_) (a' := ?_) #[Y,Y,Y,Y,Y,Y,Y,Y,Y,Y,Y,Y,Y,Y,Y,Y,Y,Y,Y,N] rfl rfl (any_of HT_.out (by kernel_rfl)) (fun _ _ _ h => h) (Or.inl ⟨by rfl, ?_⟩) ?_ ?_; rotate_left
                     ·intro w'; go_simp; with_reducible rfl
                     rotate_left
                     ·simp only [Act.put, sA,sB,sC, i64_w, i32_w]; rfl
                     refine last_ (i := 19) (N := none) #[Y,Y,Y,Y,Y,Y,Y,Y,Y,Y,Y,Y,Y,Y,Y,Y,Y,Y,Y,Y] rfl rfl (one_of HT_.out (by kernel_rfl)) (by decide) (fun K hK => ?_)
                     refine skip_ (w1 := ?_) (by rfl) rfl ?_ ?_
                     rotate_left
                     ·go_simp; rfl
                     refine hK.out _ _ ?_
                     clear hK K
                     refine done_ (done_of HT_.out (by kernel_rfl)) ?_
                     try go_wp2
                     (try simp only [← hl6_2])
                     go_roundg k2
                     case measure => have := HK1.out; have := HK2.out; omega
                     case rel => exact ⟨(y313), (wrap64 (x8_2 + 1)), (by first | rfl | (simp; done) | (simp [*]; done)), H', ⟨by have := HK1.out; have := HK2.out; omega⟩, ⟨by (try simp only [hl6_2]); (with_reducible repeat (first | apply Kd.S_alloc | apply Kd.S_drewN | apply Kd.S_drew)); exact HQ33.out⟩, ⟨by repeat (first | (with_reducible first | exact HB.out | apply below_alloc | apply pw_below_drewN | apply below_drew1 | refine below_set ?_ GB31.out) | exact HB.out)⟩⟩
                    ·rw [if_neg c30] at H
                     exact absurd H (by simp)
                   ·rw [if_neg c29] at H
                    exact absurd H (by simp)
                  ·rw [if_neg c28] at H
                   exact absurd H (by simp)
                 ·rw [if_neg c27] at H
                  exact absurd H (by simp)
                ·rw [if_neg c25] at H
                 exact absurd H (by simp)
               ·rw [if_neg c24] at H
                exact absurd H (by simp)
              ·rw [if_neg c22] at H
               exact absurd H (by simp)
             ·rw [if_neg c21] at H
              exact absurd H (by simp)
            ·rw [if_neg c20] at H
             have c20b0 : decide (x8_2 ≤ (l1.length : Int)) = false := decide_eq_false c20
             try (have c20b0zhl6_2 := c20b0; rw [hl6_2] at c20b0zhl6_2)
             clear c20
             have H' := Aside0.mk H
             clear H
             go_wp2
             (try simp only [← hl6_2])
             go_roundg k2
             case measure => have := HK1.out; have := HK2.out; omega
             case rel => exact ⟨(x6_2), (wrap64 (x7_1 + 1)), (by first | rfl | (simp; done) | (simp [*]; done)), H', ⟨by have := HK1.out; have := HK2.out; omega⟩, ⟨by (try simp only [hl6_2]); (with_reducible repeat (first | apply Kd.S_alloc | apply Kd.S_drewN | apply Kd.S_drew)); exact HO_6.out⟩, ⟨by repeat (first | (with_reducible first | exact HB.out | apply below_alloc | apply pw_below_drewN | apply below_drew1) | exact HB.out)⟩⟩
         ·rw [if_neg c14] at H
          exact absurd H (by simp)
        ·rw [if_neg c13] at H
         exact absurd H (by simp)
       ·rw [if_neg c12] at H
        exact absurd H (by simp)
      ·rw [if_neg c11] at H
       exact absurd H (by simp)
     ·rw [if_neg c9] at H
      have c9b0 : decide (x7_1 ≤ (l0.length : Int)) = false := decide_eq_false c9
      clear c9
      obtain rfl := Option.some.inj H
      go_wp2
      go_ret
      exact ⟨_, by first | rfl | (simp [errW_none, errW_some] <;> rfl) | (simp only [← hji4]; first | rfl | (simp [errW_none, errW_some] <;> rfl)) | (simp [*, errW_none, errW_some] <;> rfl), Kd.S_lower (by (with_reducible repeat (first | apply Kd.S_alloc | apply Kd.S_drewN | apply Kd.S_drew)); exact HO_6.out) (below_size HBW.out), below_step HBW.out (by repeat (first | (with_reducible first | exact HB.out | apply below_alloc | apply pw_below_drewN | apply below_drew1) | exact HB.out))⟩
  ·rw [if_neg c6] at H
   exact absurd H (by simp)
 ·rw [if_neg c5] at H
  exact absurd H (by simp)


/-! ### tattingref7_Front: function 32 -/
def tattingref7_Front.f (k : Nat) (l0 : List Int) (l1 : List Int) : Option (List Int) := (tattingref7_Ahead.f k l0 l1).bind fun t336 => (if 0 ≤ (l0.length : Int) then (if (l0.length : Int) < (t336.length : Int) then (some (rd_L2 t336 (l0.length : Int))) else (none)) else (none))
theorem tattingref7_Front.mono : ∀ a0 a1 k, LeO (tattingref7_Front.f k a0 a1) (tattingref7_Front.f (k + 1) a0 a1) := by
 intro a0 a1 k
 unfold tattingref7_Front.f
 repeat' first
   | (with_reducible exact tattingref7_Ahead.mono _ _ _)
   | (with_reducible exact LeO.refl _)
   | (with_reducible exact LeO.none _)
   | (with_reducible refine LeO.ite ?_ ?_)
   | (with_reducible refine LeO.bind ?_ (fun _ => ?_))
   | exact tattingref7_Ahead.mono _ _ _
   | exact LeO.none _
   | refine LeO.ite ?_ ?_
   | refine LeO.bind ?_ (fun _ => ?_)
set_option maxHeartbeats 8000000 in
set_option maxRecDepth 100000 in
theorem tattingref7_Front.calls (k : Nat) (A0 : Option Addr) (c0 : Nat) (l0 : List Int) (A1 : Option Addr) (c1 : Nat) (l1 : List Int) (r : List Int) (w : World) (hr0 : Kd.C (Kd.int .i64) w A0 l0.length l0) (hc0 : l0.length ≤ c0) (hr1 : Kd.C (Kd.int .i64) w A1 l1.length l1) (hc1 : l1.length ≤ c1) (h : tattingref7_Front.f k l0 l1 = some r) :
  Calls Try.prog 32 #[.slice A0 l0.length c0, .slice A1 l1.length c1] w fun e w' => ∃ v0_ : Value, e = .returned (v0_) ∧ Kd.R (Kd.int .i64) 3 w' w.heap.size (fun _ => True) v0_ r ∧ Below w.heap.size w w' := by
 have HR0 := Aside0.mk hr0
 have HC0 := Aside0.mk hc0
 clear hr0 hc0
 have HR1 := Aside0.mk hr1
 have HC1 := Aside0.mk hc1
 clear hr1 hc1
 have HB := Aside0.mk (Below.refl w.heap.size w)
 have H : ((tattingref7_Ahead.f k l0 l1).bind fun t336 => (if 0 ≤ (l0.length : Int) then (if (l0.length : Int) < (t336.length : Int) then (some (rd_L2 t336 (l0.length : Int))) else (none)) else (none))) = some r := h
 clear h
 replace H := Option.bind_eq_some_iff.mp H
 obtain ⟨t336, A30, H⟩ := H
 replace H : (if 0 ≤ (l0.length : Int) then (if (l0.length : Int) < (t336.length : Int) then (some (rd_L2 t336 (l0.length : Int))) else (none)) else (none)) = some r := H
 have A3 := Aside0.mk A30
 clear A30
 by_cases c4 : 0 ≤ (l0.length : Int)
 ·rw [if_pos c4] at H
  have c4b0 : decide (0 ≤ (l0.length : Int)) = true := decide_eq_true c4
  have c4b1 : decide (0 ≤ l0.length) = true := decide_eq_true (by omega)
  clear c4
  by_cases c5 : (l0.length : Int) < (t336.length : Int)
  ·rw [if_pos c5] at H
   have c5b0 : decide ((l0.length : Int) < (t336.length : Int)) = true := decide_eq_true c5
   have c5b1 : decide (l0.length < t336.length) = true := decide_eq_true (Int.ofNat_lt.mp c5)
   clear c5
   obtain rfl := Option.some.inj H
   go_enter Try.func32, Try.ntmps32
   go_wp2_with (first | ((first | (with_reducible refine gate_callee (f := 38) rfl ?_); refine goesL_ (some 7) rfl rfl Try.func38 (by kernel_rfl) rfl #[.slice A0 l0.length c0, .slice A1 l1.length c1] rfl (by (try simp only [List.map_toArray, List.map_cons, List.map_nil]); first | done | rfl | (simp only [List.length_drop, List.length_take]; rfl)) ?_ | go_at_call 38); (with_reducible refine (tattingref7_Ahead.calls k _ _ l0 _ _ l1 t336 _ ?side1 ?side2 ?side3 ?side4 A3.out).mono ?_); (case side1 => repeat (first | exact HR0.out | (with_reducible refine Kd.C_alloc ?_ _) | (with_reducible refine Kd.C_drewN ?_ _) | (with_reducible refine Kd.C_drew ?_))); (case side2 => exact HC0.out); (case side3 => repeat (first | exact HR1.out | (with_reducible refine Kd.C_alloc ?_ _) | (with_reducible refine Kd.C_drewN ?_ _) | (with_reducible refine Kd.C_drew ?_))); (case side4 => exact HC1.out); rintro e w6 ⟨v337, rfl, ho0, hb⟩; (try refine ⟨_, rfl, ?_⟩); have n0_ := Aside0.mk (Kd.S_lower ho0 (below_size (by repeat (first | (with_reducible first | exact HB.out | apply below_alloc | apply pw_below_drewN | apply below_drew1) | exact HB.out)))); have n1_ := Aside0.mk (below_step (by repeat (first | (with_reducible first | exact HB.out | apply below_alloc | apply pw_below_drewN | apply below_drew1) | exact HB.out)) hb); clear HB; have HO338 := n0_; have HB := n1_; clear n0_ n1_; (try clear hb); (try clear hb2); (try clear hk); (try clear hi); (try clear ho0); obtain ⟨Ao7, co7, eo7⟩ := Kd.S_slice HO338.out; subst eo7; have p339 : 0 ≤ ((l0.length : Int) : Int) := of_decide_eq_true (by first | (with_reducible assumption) | assumption); have q339 : (l0.length : Int) < (t336.length : Int) := of_decide_eq_true (by first | (with_reducible assumption) | assumption); obtain ⟨ad339, A339_0, c339_0, e339, hx339_0, hl339_0, hi339_0⟩ := at_L2 (Kd.S_reads' HO338.out).2.2 (l0.length : Int) p339 q339; cases e339; obtain ⟨ce339, hce339, hMe339, hcc339⟩ := Kd.S_get HO338.out [] (l0.length : Int) p339 (by first | exact q339 | exact of_decide_eq_true (by first | (with_reducible assumption) | assumption) | (have e_ := (Kd.S_reads' HO338.out).1; omega)); obtain ⟨ve339_0, rfl, ge339_0⟩ := hMe339; have hv339_0 := hcc339 0 _ rfl; rw [Nat.add_zero, show ((Kd.slice 3 (Kd.int .i64))).sz = 1 from rfl, Nat.mul_one] at hv339_0; replace hv339_0 := Option.some.inj (hv339_0.symm.trans hx339_0); rw [hv339_0] at ge339_0; have HL339_0 := Aside0.mk (show Kd.R (Kd.int .i64) 3 _ _ _ _ (rd_L2 t336 (l0.length : Int)) from ge339_0); clear hv339_0 ge339_0; (try clear hcc339); (try clear hce339); have HR339_0 := Aside0.mk hi339_0; have HC339_0 := Aside0.mk hl339_0; (try clear hi339_0); (try clear hl339_0); (try simp only [Go.IntWalk.toNatUp] at hx339_0); replace p339 := eq_true p339; replace q339 := eq_true q339))
   go_ret
   exact ⟨_, by first | rfl | (simp [errW_none, errW_some] <;> rfl) | (simp [*, errW_none, errW_some] <;> rfl), by (with_reducible repeat (first | apply Kd.R_alloc | apply Kd.R_drewN | apply Kd.R_drew)); exact Kd.R_mono HL339_0.out (fun _ hk => trivial), by repeat (first | (with_reducible first | exact HB.out | apply below_alloc | apply pw_below_drewN | apply below_drew1) | exact HB.out)⟩
  ·rw [if_neg c5] at H
   exact absurd H (by simp)
 ·rw [if_neg c4] at H
  exact absurd H (by simp)

/-! ### tattingref7_Back: function 33 -/
def tattingref7_Back.f (k : Nat) (l0 : List Int) (l1 : List Int) : Option (List Int) := (tattingref7_Behind.f k l0 l1).bind fun t340 => (if 0 < (t340.length : Int) then (some (rd_L2 t340 0)) else (none))
theorem tattingref7_Back.mono : ∀ a0 a1 k, LeO (tattingref7_Back.f k a0 a1) (tattingref7_Back.f (k + 1) a0 a1) := by
 intro a0 a1 k
 unfold tattingref7_Back.f
 repeat' first
   | (with_reducible exact tattingref7_Behind.mono _ _ _)
   | (with_reducible exact LeO.refl _)
   | (with_reducible exact LeO.none _)
   | (with_reducible refine LeO.ite ?_ ?_)
   | (with_reducible refine LeO.bind ?_ (fun _ => ?_))
   | exact tattingref7_Behind.mono _ _ _
   | exact LeO.none _
   | refine LeO.ite ?_ ?_
   | refine LeO.bind ?_ (fun _ => ?_)
set_option maxHeartbeats 8000000 in
set_option maxRecDepth 100000 in
theorem tattingref7_Back.calls (k : Nat) (A0 : Option Addr) (c0 : Nat) (l0 : List Int) (A1 : Option Addr) (c1 : Nat) (l1 : List Int) (r : List Int) (w : World) (hr0 : Kd.C (Kd.int .i64) w A0 l0.length l0) (hc0 : l0.length ≤ c0) (hr1 : Kd.C (Kd.int .i64) w A1 l1.length l1) (hc1 : l1.length ≤ c1) (h : tattingref7_Back.f k l0 l1 = some r) :
  Calls Try.prog 33 #[.slice A0 l0.length c0, .slice A1 l1.length c1] w fun e w' => ∃ v0_ : Value, e = .returned (v0_) ∧ Kd.R (Kd.int .i64) 3 w' w.heap.size (fun _ => True) v0_ r ∧ Below w.heap.size w w' := by
 have HR0 := Aside0.mk hr0
 have HC0 := Aside0.mk hc0
 clear hr0 hc0
 have HR1 := Aside0.mk hr1
 have HC1 := Aside0.mk hc1
 clear hr1 hc1
 have HB := Aside0.mk (Below.refl w.heap.size w)
 have H : ((tattingref7_Behind.f k l0 l1).bind fun t340 => (if 0 < (t340.length : Int) then (some (rd_L2 t340 0)) else (none))) = some r := h
 clear h
 replace H := Option.bind_eq_some_iff.mp H
 obtain ⟨t340, A30, H⟩ := H
 replace H : (if 0 < (t340.length : Int) then (some (rd_L2 t340 0)) else (none)) = some r := H
 have A3 := Aside0.mk A30
 clear A30
 by_cases c4 : 0 < (t340.length : Int)
 ·rw [if_pos c4] at H
  have c4b0 : decide (0 < (t340.length : Int)) = true := decide_eq_true c4
  have c4b1 : decide (0 < t340.length) = true := decide_eq_true (by omega)
  clear c4
  obtain rfl := Option.some.inj H
  go_enter Try.func33, Try.ntmps33
  go_wp2_with (first | ((first | (with_reducible refine gate_callee (f := 29) rfl ?_); refine goesL_ (some 7) rfl rfl Try.func29 (by kernel_rfl) rfl #[.slice A0 l0.length c0, .slice A1 l1.length c1] rfl (by (try simp only [List.map_toArray, List.map_cons, List.map_nil]); first | done | rfl | (simp only [List.length_drop, List.length_take]; rfl)) ?_ | go_at_call 29); (with_reducible refine (tattingref7_Behind.calls k _ _ l0 _ _ l1 t340 _ ?side1 ?side2 ?side3 ?side4 A3.out).mono ?_); (case side1 => repeat (first | exact HR0.out | (with_reducible refine Kd.C_alloc ?_ _) | (with_reducible refine Kd.C_drewN ?_ _) | (with_reducible refine Kd.C_drew ?_))); (case side2 => exact HC0.out); (case side3 => repeat (first | exact HR1.out | (with_reducible refine Kd.C_alloc ?_ _) | (with_reducible refine Kd.C_drewN ?_ _) | (with_reducible refine Kd.C_drew ?_))); (case side4 => exact HC1.out); rintro e w5 ⟨v341, rfl, ho0, hb⟩; (try refine ⟨_, rfl, ?_⟩); have n0_ := Aside0.mk (Kd.S_lower ho0 (below_size (by repeat (first | (with_reducible first | exact HB.out | apply below_alloc | apply pw_below_drewN | apply below_drew1) | exact HB.out)))); have n1_ := Aside0.mk (below_step (by repeat (first | (with_reducible first | exact HB.out | apply below_alloc | apply pw_below_drewN | apply below_drew1) | exact HB.out)) hb); clear HB; have HO342 := n0_; have HB := n1_; clear n0_ n1_; (try clear hb); (try clear hb2); (try clear hk); (try clear hi); (try clear ho0); obtain ⟨Ao6, co6, eo6⟩ := Kd.S_slice HO342.out; subst eo6; have p343 : 0 ≤ (0 : Int) := (by omega); have q343 : 0 < (t340.length : Int) := of_decide_eq_true (by first | (with_reducible assumption) | assumption); obtain ⟨ad343, A343_0, c343_0, e343, hx343_0, hl343_0, hi343_0⟩ := at_L2 (Kd.S_reads' HO342.out).2.2 0 p343 q343; cases e343; obtain ⟨ce343, hce343, hMe343, hcc343⟩ := Kd.S_get HO342.out [] 0 p343 (by first | exact q343 | exact of_decide_eq_true (by first | (with_reducible assumption) | assumption) | (have e_ := (Kd.S_reads' HO342.out).1; omega)); obtain ⟨ve343_0, rfl, ge343_0⟩ := hMe343; have hv343_0 := hcc343 0 _ rfl; rw [Nat.add_zero, show ((Kd.slice 3 (Kd.int .i64))).sz = 1 from rfl, Nat.mul_one] at hv343_0; replace hv343_0 := Option.some.inj (hv343_0.symm.trans hx343_0); rw [hv343_0] at ge343_0; have HL343_0 := Aside0.mk (show Kd.R (Kd.int .i64) 3 _ _ _ _ (rd_L2 t340 0) from ge343_0); clear hv343_0 ge343_0; (try clear hcc343); (try clear hce343); have qi343 : (0 < t340.length) = True := eq_true (by omega); (try rw [show ((0 : Int)).toNat = 0 from rfl] at hx343_0); (try rw [Addr.add_zero'] at hx343_0); have HR343_0 := Aside0.mk hi343_0; have HC343_0 := Aside0.mk hl343_0; (try clear hi343_0); (try clear hl343_0); replace p343 := eq_true p343; replace q343 := eq_true q343))
  go_ret
  exact ⟨_, by first | rfl | (simp [errW_none, errW_some] <;> rfl) | (simp [*, errW_none, errW_some] <;> rfl), by (with_reducible repeat (first | apply Kd.R_alloc | apply Kd.R_drewN | apply Kd.R_drew)); exact Kd.R_mono HL343_0.out (fun _ hk => trivial), by repeat (first | (with_reducible first | exact HB.out | apply below_alloc | apply pw_below_drewN | apply below_drew1) | exact HB.out)⟩
 ·rw [if_neg c4] at H
  exact absurd H (by simp)

end Go.Proofs.Ytdegajidkboknaa.PCanonAny
