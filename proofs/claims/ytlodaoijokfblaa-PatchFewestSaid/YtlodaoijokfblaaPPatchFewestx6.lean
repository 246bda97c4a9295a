/- What the given program's functions come to, each a Lean function and the walk that shows it: no condition beside those that each theorem names. -/
import Derived.Test.YtlodaoijokfblaaPPatchFewestx0
import Derived.Test.YtlodaoijokfblaaPPatchFewestx1
import Derived.Test.YtlodaoijokfblaaPPatchFewestx2
import Derived.Test.YtlodaoijokfblaaPPatchFewestx3
import Derived.Test.YtlodaoijokfblaaPPatchFewestx4
import Derived.Test.YtlodaoijokfblaaPPatchFewestx5
namespace Go.Proofs.Ytlodaoijokfblaa.PPatchFewest
open Go.RowKit Go.Proofs.YtlodaoijokfblaaW.PrintWords Go.Proofs.YtlodaoijokfblaaW.PrintLast Go.Proofs.YtlodaoijokfblaaW.PrintMore
attribute [local go_sem] max2_int min2_int max_two min_two max_three min_three max_four min_four   -- for this text's walks alone
set_option linter.unusedVariables false
set_option linter.unusedSimpArgs false

/-! ### tattingref7_Len: function 32 -/
def tattingref7_Len.f (k : Nat) (l0 : List Int) (l1 : List Int) : Option (Int) := (tattingref7_Behind.f k l0 l1).bind fun t276 => (if 0 < (t276.length : Int) then (if 0 < ((rd_L5 t276 0).length : Int) then (some (rd (rd_L5 t276 0) 0)) else (none)) else (none))
theorem tattingref7_Len.mono : ∀ a0 a1 k, LeO (tattingref7_Len.f k a0 a1) (tattingref7_Len.f (k + 1) a0 a1) := by
 intro a0 a1 k
 unfold tattingref7_Len.f
 repeat' first
   | (with_reducible exact tattingref7_Behind.mono _ _ _)
   | (with_reducible exact LeO.refl _)
   | (with_reducible exact LeO.none _)
   | (with_reducible refine LeO.ite ?_ ?_)
   | (with_reducible refine LeO.bind ?_ (fun _ => ?_))
   | exact tattingref7_Behind.mono _ _ _
   | exact LeO.none _
   | refine LeO.ite ?_ ?_
   | refine LeO.bind ?_ (fun _ => ?_)
set_option maxHeartbeats 8000000 in
set_option maxRecDepth 100000 in
theorem tattingref7_Len.calls (k : Nat) (A0 : Option Addr) (c0 : Nat) (l0 : List Int) (A1 : Option Addr) (c1 : Nat) (l1 : List Int) (r : Int) (w : World) (hr0 : Kd.C (Kd.int .i64) w A0 l0.length l0) (hc0 : l0.length ≤ c0) (hr1 : Kd.C (Kd.int .i64) w A1 l1.length l1) (hc1 : l1.length ≤ c1) (h : tattingref7_Len.f k l0 l1 = some r) :
  Calls Try.prog 32 #[.slice A0 l0.length c0, .slice A1 l1.length c1] w fun e w' => e = .returned (.int .i64 r) ∧ Below w.heap.size w w' := by
 have HR0 := Aside0.mk hr0
 have HC0 := Aside0.mk hc0
 clear hr0 hc0
 have HR1 := Aside0.mk hr1
 have HC1 := Aside0.mk hc1
 clear hr1 hc1
 have HB := Aside0.mk (Below.refl w.heap.size w)
 have H : ((tattingref7_Behind.f k l0 l1).bind fun t276 => (if 0 < (t276.length : Int) then (if 0 < ((rd_L5 t276 0).length : Int) then (some (rd (rd_L5 t276 0) 0)) else (none)) else (none))) = some r := h
 clear h
 replace H := Option.bind_eq_some_iff.mp H
 obtain ⟨t276, A30, H⟩ := H
 replace H : (if 0 < (t276.length : Int) then (if 0 < ((rd_L5 t276 0).length : Int) then (some (rd (rd_L5 t276 0) 0)) else (none)) else (none)) = some r := H
 have A3 := Aside0.mk A30
 clear A30
 by_cases c4 : 0 < (t276.length : Int)
 ·rw [if_pos c4] at H
  have c4b0 : decide (0 < (t276.length : Int)) = true := decide_eq_true c4
  have c4b1 : decide (0 < t276.length) = true := decide_eq_true (by omega)
  clear c4
  by_cases c5 : 0 < ((rd_L5 t276 0).length : Int)
  ·rw [if_pos c5] at H
   have c5b0 : decide (0 < ((rd_L5 t276 0).length : Int)) = true := decide_eq_true c5
   have c5b1 : decide (0 < (rd_L5 t276 0).length) = true := decide_eq_true (by omega)
   clear c5
   obtain rfl := Option.some.inj H
   go_enter Try.func32, Try.ntmps32
   go_wp2_with (first | ((first | (with_reducible refine gate_callee (f := 30) rfl ?_); refine goesL_ (some 7) rfl rfl Try.func30 (by kernel_rfl) rfl #[.slice A0 l0.length c0, .slice A1 l1.length c1] rfl (by (try simp only [List.map_toArray, List.map_cons, List.map_nil]); first | done | rfl | (simp only [List.length_drop, List.length_take]; rfl)) ?_ | go_at_call 30); (with_reducible refine (tattingref7_Behind.calls k _ _ l0 _ _ l1 t276 _ ?side1 ?side2 ?side3 ?side4 A3.out).mono ?_); (case side1 => repeat (first | exact HR0.out | (with_reducible refine Kd.C_alloc ?_ _) | (with_reducible refine Kd.C_drewN ?_ _) | (with_reducible refine Kd.C_drew ?_))); (case side2 => exact HC0.out); (case side3 => repeat (first | exact HR1.out | (with_reducible refine Kd.C_alloc ?_ _) | (with_reducible refine Kd.C_drewN ?_ _) | (with_reducible refine Kd.C_drew ?_))); (case side4 => exact HC1.out); rintro e w6 ⟨v277, rfl, ho0, hb⟩; (try refine ⟨_, rfl, ?_⟩); have n0_ := Aside0.mk (Kd.S_lower ho0 (below_size (by repeat (first | (with_reducible first | exact HB.out | apply below_alloc | apply pw_below_drewN | apply below_drew1) | exact HB.out)))); have n1_ := Aside0.mk (below_step (by repeat (first | (with_reducible first | exact HB.out | apply below_alloc | apply pw_below_drewN | apply below_drew1) | exact HB.out)) hb); clear HB; have HO278 := n0_; have HB := n1_; clear n0_ n1_; (try clear hb); (try clear hb2); (try clear hk); (try clear hi); (try clear ho0); obtain ⟨Ao7, co7, eo7⟩ := Kd.S_slice HO278.out; subst eo7; have p279 : 0 ≤ (0 : Int) := (by omega); have q279 : 0 < (t276.length : Int) := of_decide_eq_true (by first | (with_reducible assumption) | assumption); obtain ⟨ad279, A279_0, c279_0, e279, hx279_0, hl279_0, hi279_0⟩ := at_L5 (Kd.S_reads' HO278.out).2.2 0 p279 q279; cases e279; obtain ⟨ce279, hce279, hMe279, hcc279⟩ := Kd.S_get HO278.out [] 0 p279 (by first | exact q279 | exact of_decide_eq_true (by first | (with_reducible assumption) | assumption) | (have e_ := (Kd.S_reads' HO278.out).1; omega)); obtain ⟨ve279_0, rfl, ge279_0⟩ := hMe279; have hv279_0 := hcc279 0 _ rfl; rw [Nat.add_zero, show ((Kd.slice 3 (Kd.int .i64))).sz = 1 from rfl, Nat.mul_one] at hv279_0; replace hv279_0 := Option.some.inj (hv279_0.symm.trans hx279_0); rw [hv279_0] at ge279_0; have HL279_0 := Aside0.mk (show Kd.R (Kd.int .i64) 3 _ _ _ _ (rd_L5 t276 0) from ge279_0); clear hv279_0 ge279_0; (try clear hcc279); (try clear hce279); have qi279 : (0 < t276.length) = True := eq_true (by omega); (try rw [show ((0 : Int)).toNat = 0 from rfl] at hx279_0); (try rw [Addr.add_zero'] at hx279_0); have HR279_0 := Aside0.mk hi279_0; have HC279_0 := Aside0.mk hl279_0; (try clear hi279_0); (try clear hl279_0); replace p279 := eq_true p279; replace q279 := eq_true q279; have p280 : 0 ≤ (0 : Int) := (by omega); have q280 : 0 < ((rd_L5 t276 0).length : Int) := of_decide_eq_true (by first | (with_reducible assumption) | assumption); obtain ⟨ad280, e280, hx280_0⟩ := Kd.at_int (by repeat (first | (with_reducible exact HR279_0.out) | (with_reducible refine Kd.C_alloc ?_ _) | (with_reducible refine Kd.C_drewN ?_ _) | (with_reducible refine Kd.C_drew ?_) | exact HR279_0.out)) 0 p280 q280; cases e280; have qi280 : (0 < (rd_L5 t276 0).length) = True := eq_true (by omega); (try rw [show ((0 : Int)).toNat = 0 from rfl] at hx280_0); (try rw [Addr.add_zero'] at hx280_0); replace p280 := eq_true p280; replace q280 := eq_true q280))
   go_ret
   exact ⟨by first | rfl | (simp [errW_none, errW_some] <;> rfl) | (simp [*, errW_none, errW_some] <;> rfl), by repeat (first | (with_reducible first | exact HB.out | apply below_alloc | apply pw_below_drewN | apply below_drew1) | exact HB.out)⟩
  ·rw [if_neg c5] at H
   exact absurd H (by simp)
 ·rw [if_neg c4] at H
  exact absurd H (by simp)

/-! ### tattingref7_Dist: function 22 -/
def tattingref7_Dist.f (k : Nat) (l0 : List Int) (l1 : List Int) : Option (Int) := (tattingref7_Len.f k l0 l1).bind fun t281 => (some (wrap64 ((wrap64 ((l0.length : Int) + (l1.length : Int))) - (wrap64 (2 * t281)))))
theorem tattingref7_Dist.mono : ∀ a0 a1 k, LeO (tattingref7_Dist.f k a0 a1) (tattingref7_Dist.f (k + 1) a0 a1) := by
 intro a0 a1 k
 unfold tattingref7_Dist.f
 repeat' first
   | (with_reducible exact tattingref7_Len.mono _ _ _)
   | (with_reducible exact LeO.refl _)
   | (with_reducible exact LeO.none _)
   | (with_reducible refine LeO.ite ?_ ?_)
   | (with_reducible refine LeO.bind ?_ (fun _ => ?_))
   | exact tattingref7_Len.mono _ _ _
   | exact LeO.none _
   | refine LeO.ite ?_ ?_
   | refine LeO.bind ?_ (fun _ => ?_)
set_option maxHeartbeats 8000000 in
set_option maxRecDepth 100000 in
theorem tattingref7_Dist.calls (k : Nat) (A0 : Option Addr) (c0 : Nat) (l0 : List Int) (A1 : Option Addr) (c1 : Nat) (l1 : List Int) (r : Int) (w : World) (hr0 : Kd.C (Kd.int .i64) w A0 l0.length l0) (hc0 : l0.length ≤ c0) (hr1 : Kd.C (Kd.int .i64) w A1 l1.length l1) (hc1 : l1.length ≤ c1) (h : tattingref7_Dist.f k l0 l1 = some r) :
  Calls Try.prog 22 #[.slice A0 l0.length c0, .slice A1 l1.length c1] w fun e w' => e = .returned (.int .i64 r) ∧ Below w.heap.size w w' := by
 have HR0 := Aside0.mk hr0
 have HC0 := Aside0.mk hc0
 clear hr0 hc0
 have HR1 := Aside0.mk hr1
 have HC1 := Aside0.mk hc1
 clear hr1 hc1
 have HB := Aside0.mk (Below.refl w.heap.size w)
 have H : ((tattingref7_Len.f k l0 l1).bind fun t281 => (some (wrap64 ((wrap64 ((l0.length : Int) + (l1.length : Int))) - (wrap64 (2 * t281)))))) = some r := h
 clear h
 replace H := Option.bind_eq_some_iff.mp H
 obtain ⟨t281, A30, H⟩ := H
 replace H : (some (wrap64 ((wrap64 ((l0.length : Int) + (l1.length : Int))) - (wrap64 (2 * t281))))) = some r := H
 have A3 := Aside0.mk A30
 clear A30
 obtain rfl := Option.some.inj H
 go_enter Try.func22, Try.ntmps22
 go_wp2_with (first | ((first | (with_reducible refine gate_callee (f := 32) rfl ?_); refine goesL_ (some 12) rfl rfl Try.func32 (by kernel_rfl) rfl #[.slice A0 l0.length c0, .slice A1 l1.length c1] rfl (by (try simp only [List.map_toArray, List.map_cons, List.map_nil]); first | done | rfl | (simp only [List.length_drop, List.length_take]; rfl)) ?_ | go_at_call 32); (with_reducible refine (tattingref7_Len.calls k _ _ l0 _ _ l1 t281 _ ?side1 ?side2 ?side3 ?side4 A3.out).mono ?_); (case side1 => repeat (first | exact HR0.out | (with_reducible refine Kd.C_alloc ?_ _) | (with_reducible refine Kd.C_drewN ?_ _) | (with_reducible refine Kd.C_drew ?_))); (case side2 => exact HC0.out); (case side3 => repeat (first | exact HR1.out | (with_reducible refine Kd.C_alloc ?_ _) | (with_reducible refine Kd.C_drewN ?_ _) | (with_reducible refine Kd.C_drew ?_))); (case side4 => exact HC1.out); rintro e w4 ⟨rfl, hb⟩; (try refine ⟨_, rfl, ?_⟩); have n0_ := Aside0.mk (below_step (by repeat (first | (with_reducible first | exact HB.out | apply below_alloc | apply pw_below_drewN | apply below_drew1) | exact HB.out)) hb); clear HB; have HB := n0_; clear n0_; (try clear hb); (try clear hb2); (try clear hk); (try clear hi)))
 go_ret
 exact ⟨by first | rfl | (simp [errW_none, errW_some] <;> rfl) | (simp [*, errW_none, errW_some] <;> rfl), by repeat (first | (with_reducible first | exact HB.out | apply below_alloc | apply pw_below_drewN | apply below_drew1) | exact HB.out)⟩

/-! ### tattinglaw25_PatchFewest: function 8 -/
def tattinglaw25_PatchFewest.j0 : Nat → List (S28) → List (List Int) → Bool → Option (Bool)
 | 0, _, _, _ => none
 | k + 1, x0, x1, x21 => if x21 = true then (some true) else ((patch_Apply.f k x0 x1).bind fun bt285 => (if bt285.2 = 0 then ((tattingref1_Two.f k x1 bt285.1).bind fun bt289 => ((tattingref24_Count.f k x0).bind fun bt296 => ((tattingref7_Dist.f k bt289.1 bt289.2.1).bind fun t298 => (if (wrap64 (bt296.1 + bt296.2)) ≥ t298 then (some ((bt285.1.length : Int) == (wrap64 ((wrap64 ((x1.length : Int) - bt296.1)) + bt296.2)))) else (some false))))) else (some ((bt285.1.length : Int) == 0))))
def tattinglaw25_PatchFewest.f (k : Nat) (l0 : List (S28)) (l1 : List (List Int)) : Option (Bool) := (tattinglaw25_awake.f k).bind fun t282 => (if t282 = true then ((tattinglaw25_small.f k l0).bind fun t283 => (if t283 = true then ((tattinglaw25_few.f k l1).bind fun t284 => (tattinglaw25_PatchFewest.j0 k l0 l1 (!t284))) else (tattinglaw25_PatchFewest.j0 k l0 l1 true))) else (some false))
theorem tattinglaw25_PatchFewest.mono_l : ∀ k, (∀ y0 y1 y2, LeO (tattinglaw25_PatchFewest.j0 k y0 y1 y2) (tattinglaw25_PatchFewest.j0 (k + 1) y0 y1 y2))
 | 0 => fun _ _ _ r h => by simp [tattinglaw25_PatchFewest.j0] at h
 | k + 1 => by
  have ih0 := tattinglaw25_PatchFewest.mono_l k
  ·intro y0 y1 y2
   unfold tattinglaw25_PatchFewest.j0
   repeat' first
   | (with_reducible exact ih0 _ _ _)
   | (with_reducible exact patch_Apply.mono _ _ _)
   | (with_reducible exact tattinglaw25_awake.mono _)
   | (with_reducible exact tattinglaw25_few.mono _ _)
   | (with_reducible exact tattinglaw25_small.mono _ _)
   | (with_reducible exact tattingref1_Two.mono _ _ _)
   | (with_reducible exact tattingref24_Count.mono _ _)
   | (with_reducible exact tattingref7_Dist.mono _ _ _)
   | (with_reducible exact LeO.refl _)
   | (with_reducible exact LeO.none _)
   | (with_reducible refine LeO.ite ?_ ?_)
   | (with_reducible refine LeO.bind ?_ (fun _ => ?_))
   | exact ih0 _ _ _
   | exact patch_Apply.mono _ _ _
   | exact tattinglaw25_awake.mono _
   | exact tattinglaw25_few.mono _ _
   | exact tattinglaw25_small.mono _ _
   | exact tattingref1_Two.mono _ _ _
   | exact tattingref24_Count.mono _ _
   | exact tattingref7_Dist.mono _ _ _
   | exact LeO.none _
   | refine LeO.ite ?_ ?_
   | refine LeO.bind ?_ (fun _ => ?_)
theorem tattinglaw25_PatchFewest.mono : ∀ a0 a1 k, LeO (tattinglaw25_PatchFewest.f k a0 a1) (tattinglaw25_PatchFewest.f (k + 1) a0 a1) := by
 intro a0 a1 k
 have ih0 := tattinglaw25_PatchFewest.mono_l k
 unfold tattinglaw25_PatchFewest.f
 repeat' first
   | (with_reducible exact ih0 _ _ _)
   | (with_reducible exact patch_Apply.mono _ _ _)
   | (with_reducible exact tattinglaw25_awake.mono _)
   | (with_reducible exact tattinglaw25_few.mono _ _)
   | (with_reducible exact tattinglaw25_small.mono _ _)
   | (with_reducible exact tattingref1_Two.mono _ _ _)
   | (with_reducible exact tattingref24_Count.mono _ _)
   | (with_reducible exact tattingref7_Dist.mono _ _ _)
   | (with_reducible exact LeO.refl _)
   | (with_reducible exact LeO.none _)
   | (with_reducible refine LeO.ite ?_ ?_)
   | (with_reducible refine LeO.bind ?_ (fun _ => ?_))
   | exact ih0 _ _ _
   | exact patch_Apply.mono _ _ _
   | exact tattinglaw25_awake.mono _
   | exact tattinglaw25_few.mono _ _
   | exact tattinglaw25_small.mono _ _
   | exact tattingref1_Two.mono _ _ _
   | exact tattingref24_Count.mono _ _
   | exact tattingref7_Dist.mono _ _ _
   | exact LeO.none _
   | refine LeO.ite ?_ ?_
   | refine LeO.bind ?_ (fun _ => ?_)
set_option maxHeartbeats 8000000 in
set_option maxRecDepth 100000 in
theorem tattinglaw25_PatchFewest.calls (k : Nat) (A0 : Option Addr) (c0 : Nat) (l0 : List (S28)) (A1 : Option Addr) (c1 : Nat) (l1 : List (List Int)) (r : Bool) (w : World) (hr0 : Kd.C k28 w A0 l0.length l0) (hc0 : l0.length ≤ c0) (hr1 : Kd.C (Kd.slice 5 (Kd.int .u8)) w A1 l1.length l1) (hc1 : l1.length ≤ c1) (h : tattinglaw25_PatchFewest.f k l0 l1 = some r) (hr_ : r = true) :
  Calls Try.prog 8 #[.slice A0 l0.length c0, .slice A1 l1.length c1] w fun e w' => e = .returned (.bool r) ∧ Below w.heap.size w w' := by
 have HR0 := Aside0.mk hr0
 have HC0 := Aside0.mk hc0
 clear hr0 hc0
 have HR1 := Aside0.mk hr1
 have HC1 := Aside0.mk hc1
 clear hr1 hc1
 have HB := Aside0.mk (Below.refl w.heap.size w)
 have H : ((tattinglaw25_awake.f k).bind fun t282 => (if t282 = true then ((tattinglaw25_small.f k l0).bind fun t283 => (if t283 = true then ((tattinglaw25_few.f k l1).bind fun t284 => (tattinglaw25_PatchFewest.j0 k l0 l1 (!t284))) else (tattinglaw25_PatchFewest.j0 k l0 l1 true))) else (some false))) = some r := h
 clear h
 replace H := Option.bind_eq_some_iff.mp H
 obtain ⟨t282, A30, H⟩ := H
 replace H : (if t282 = true then ((tattinglaw25_small.f k l0).bind fun t283 => (if t283 = true then ((tattinglaw25_few.f k l1).bind fun t284 => (tattinglaw25_PatchFewest.j0 k l0 l1 (!t284))) else (tattinglaw25_PatchFewest.j0 k l0 l1 true))) else (some false)) = some r := H
 have A3 := Aside0.mk A30
 clear A30
 by_cases c4 : t282 = true
 ·subst c4
  have H1 : ((tattinglaw25_small.f k l0).bind fun t283 => (if t283 = true then ((tattinglaw25_few.f k l1).bind fun t284 => (tattinglaw25_PatchFewest.j0 k l0 l1 (!t284))) else (tattinglaw25_PatchFewest.j0 k l0 l1 true))) = some r := by rw [if_pos rfl] at H; exact H
  clear H
  have H := H1
  clear H1
  have HC5 := Aside0.mk H
  clear H
  go_enter Try.func8, Try.ntmps8
  go_upto_region 3 with (first | ((first | (with_reducible refine gate_callee (f := 11) rfl ?_); refine goesL_ (some 12) rfl rfl Try.func11 (by kernel_rfl) rfl #[] rfl (by (try simp only [List.map_toArray, List.map_cons, List.map_nil]); first | done | rfl | (simp only [List.length_drop, List.length_take]; rfl)) ?_ | go_at_call 11); (with_reducible refine (tattinglaw25_awake.calls k  true _ A3.out rfl).mono ?_); rintro e w6 ⟨rfl, hb⟩; (try refine ⟨_, rfl, ?_⟩); have n0_ := Aside0.mk (below_step (by repeat (first | (with_reducible first | exact HB.out | apply below_alloc | apply pw_below_drewN | apply below_drew1) | exact HB.out)) hb); clear HB; have HB := n0_; clear n0_; (try clear hb); (try clear hb2); (try clear hk); (try clear hi)))
  (try simp only [Act.put, sA,sB,sC])
  go_cut [21] (fun v21 wc => ∃ (kq : Nat) (x21_4 : Bool), v21 = .bool x21_4 ∧ Aside0 (tattinglaw25_PatchFewest.j0 kq l0 l1 x21_4 = some r) ∧ Aside0 (kq ≤ k) ∧ Aside0 (Below w.heap.size w wc))
  case first =>
   have H := HC5.out
   clear HC5
   replace H := Option.bind_eq_some_iff.mp H
   obtain ⟨t283, A70, H⟩ := H
   replace H : (if t283 = true then ((tattinglaw25_few.f k l1).bind fun t284 => (tattinglaw25_PatchFewest.j0 k l0 l1 (!t284))) else (tattinglaw25_PatchFewest.j0 k l0 l1 true)) = some r := H
   have A7 := Aside0.mk A70
   clear A70
   by_cases c8 : t283 = true
   ·subst c8
    have H1 : ((tattinglaw25_few.f k l1).bind fun t284 => (tattinglaw25_PatchFewest.j0 k l0 l1 (!t284))) = some r := by rw [if_pos rfl] at H; exact H
    clear H
    have H := H1
    clear H1
    replace H := Option.bind_eq_some_iff.mp H
    obtain ⟨t284, A90, H⟩ := H
    replace H : (tattinglaw25_PatchFewest.j0 k l0 l1 (!t284)) = some r := H
    have A9 := Aside0.mk A90
    clear A90
    have H' := Aside0.mk H
    clear H
    go_wp2_with (first | ((first | (with_reducible refine gate_callee (f := 12) rfl ?_); refine goesL_ (some 15) rfl rfl Try.func12 (by kernel_rfl) rfl #[.slice A0 l0.length c0] rfl (by (try simp only [List.map_toArray, List.map_cons, List.map_nil]); first | done | rfl | (simp only [List.length_drop, List.length_take]; rfl)) ?_ | go_at_call 12); (with_reducible refine (tattinglaw25_small.calls k _ _ l0 true _ ?side1 ?side2 A7.out).mono ?_); (case side1 => repeat (first | exact (Kd.C_below HR0.out HB.out) | (with_reducible refine Kd.C_alloc ?_ _) | (with_reducible refine Kd.C_drewN ?_ _) | (with_reducible refine Kd.C_drew ?_))); (case side2 => exact HC0.out); rintro e w' ⟨rfl, ⟨nd, rfl⟩⟩; (try refine ⟨_, rfl, ?_⟩)) | (go_at_call 13; (with_reducible refine (tattinglaw25_few.calls k _ _ l1 t284 _ ?side1 ?side2 A9.out).mono ?_); (case side1 => repeat (first | exact (Kd.C_below HR1.out (by repeat (first | (with_reducible first | exact HB.out | apply below_alloc | apply pw_below_drewN | apply below_drew1) | exact HB.out))) | (with_reducible refine Kd.C_alloc ?_ _) | (with_reducible refine Kd.C_drewN ?_ _) | (with_reducible refine Kd.C_drew ?_))); (case side2 => exact HC1.out); rintro e w' ⟨rfl, ⟨nd, rfl⟩⟩))
    go_meet
    case rel => exact ⟨_, (!t284), (by first | rfl | (simp; done) | (simp [*]; done)), H', ⟨by first | omega | exact Nat.le_refl _⟩, ⟨by repeat (first | (with_reducible first | exact HB.out | apply below_alloc | apply pw_below_drewN | apply below_drew1) | exact HB.out)⟩⟩
   ·replace c8 := Bool.eq_false_iff.mpr c8
    subst c8
    have H1 : (tattinglaw25_PatchFewest.j0 k l0 l1 true) = some r := by rw [if_neg (show ¬ (false = true) by decide)] at H; exact H
    clear H
    have H := H1
    clear H1
    have H' := Aside0.mk H
    clear H
    go_wp2_with (first | ((first | (with_reducible refine gate_callee (f := 12) rfl ?_); refine goesL_ (some 15) rfl rfl Try.func12 (by kernel_rfl) rfl #[.slice A0 l0.length c0] rfl (by (try simp only [List.map_toArray, List.map_cons, List.map_nil]); first | done | rfl | (simp only [List.length_drop, List.length_take]; rfl)) ?_ | go_at_call 12); (with_reducible refine (tattinglaw25_small.calls k _ _ l0 false _ ?side1 ?side2 A7.out).mono ?_); (case side1 => repeat (first | exact (Kd.C_below HR0.out HB.out) | (with_reducible refine Kd.C_alloc ?_ _) | (with_reducible refine Kd.C_drewN ?_ _) | (with_reducible refine Kd.C_drew ?_))); (case side2 => exact HC0.out); rintro e w' ⟨rfl, ⟨nd, rfl⟩⟩; (try refine ⟨_, rfl, ?_⟩)))
    go_meet
    case rel => exact ⟨_, (true), (by first | rfl | (simp; done) | (simp [*]; done)), H', ⟨by first | omega | exact Nat.le_refl _⟩, ⟨by repeat (first | (with_reducible first | exact HB.out | apply below_alloc | apply pw_below_drewN | apply below_drew1) | exact HB.out)⟩⟩
  case rest =>
   clear HC5
   try clear c1
   try clear p2
   try clear c4
   try clear c8
   obtain ⟨kq, x21_4, rfl, HA, HJ4, HB⟩ := hcut
   cases kq with
   | zero => exact absurd HA.out (by simp [tattinglaw25_PatchFewest.j0])
   | succ kj4 =>
    have H := HA.out
    clear HA
    simp only [tattinglaw25_PatchFewest.j0] at H
    by_cases c10 : x21_4 = true
    ·subst c10
     have H1 : (some true) = some r := by rw [if_pos rfl] at H; exact H
     clear H
     have H := H1
     clear H1
     obtain rfl := Option.some.inj H
     go_wp2
     go_ret
     exact ⟨by first | rfl | (simp [errW_none, errW_some] <;> rfl) | (simp [*, errW_none, errW_some] <;> rfl), by repeat (first | (with_reducible first | exact HB.out | apply below_alloc | apply pw_below_drewN | apply below_drew1) | exact HB.out)⟩
    ·replace c10 := Bool.eq_false_iff.mpr c10
     subst c10
     have H1 : ((patch_Apply.f kj4 l0 l1).bind fun bt285 => (if bt285.2 = 0 then ((tattingref1_Two.f kj4 l1 bt285.1).bind fun bt289 => ((tattingref24_Count.f kj4 l0).bind fun bt296 => ((tattingref7_Dist.f kj4 bt289.1 bt289.2.1).bind fun t298 => (if (wrap64 (bt296.1 + bt296.2)) ≥ t298 then (some ((bt285.1.length : Int) == (wrap64 ((wrap64 ((l1.length : Int) - bt296.1)) + bt296.2)))) else (some false))))) else (some ((bt285.1.length : Int) == 0)))) = some r := by rw [if_neg (show ¬ (false = true) by decide)] at H; exact H
     clear H
     have H := H1
     clear H1
     replace H := Option.bind_eq_some_iff.mp H
     obtain ⟨⟨t285, t288⟩, A110, H⟩ := H
     replace H : (if t288 = 0 then ((tattingref1_Two.f kj4 l1 t285).bind fun bt289 => ((tattingref24_Count.f kj4 l0).bind fun bt296 => ((tattingref7_Dist.f kj4 bt289.1 bt289.2.1).bind fun t298 => (if (wrap64 (bt296.1 + bt296.2)) ≥ t298 then (some ((t285.length : Int) == (wrap64 ((wrap64 ((l1.length : Int) - bt296.1)) + bt296.2)))) else (some false))))) else (some ((t285.length : Int) == 0))) = some r := H
     have A11 := Aside0.mk A110
     clear A110
     by_cases c12 : t288 = 0
     ·rw [if_pos c12] at H
      have c12b0 : (t288 == 0) = true := beq_iff_eq.mpr c12
      have c12b1 : (t288 != 0) = false := bne_eq_false_iff_eq.mpr c12
      clear c12
      replace H := Option.bind_eq_some_iff.mp H
      obtain ⟨⟨t289, t292, t295⟩, A130, H⟩ := H
      replace H : ((tattingref24_Count.f kj4 l0).bind fun bt296 => ((tattingref7_Dist.f kj4 t289 t292).bind fun t298 => (if (wrap64 (bt296.1 + bt296.2)) ≥ t298 then (some ((t285.length : Int) == (wrap64 ((wrap64 ((l1.length : Int) - bt296.1)) + bt296.2)))) else (some false)))) = some r := H
      have A13 := Aside0.mk A130
      clear A130
      replace H := Option.bind_eq_some_iff.mp H
      obtain ⟨⟨t296, t297⟩, A140, H⟩ := H
      replace H : ((tattingref7_Dist.f kj4 t289 t292).bind fun t298 => (if (wrap64 (t296 + t297)) ≥ t298 then (some ((t285.length : Int) == (wrap64 ((wrap64 ((l1.length : Int) - t296)) + t297)))) else (some false))) = some r := H
      have A14 := Aside0.mk A140
      clear A140
      replace H := Option.bind_eq_some_iff.mp H
      obtain ⟨t298, A150, H⟩ := H
      replace H : (if (wrap64 (t296 + t297)) ≥ t298 then (some ((t285.length : Int) == (wrap64 ((wrap64 ((l1.length : Int) - t296)) + t297)))) else (some false)) = some r := H
      have A15 := Aside0.mk A150
      clear A150
      by_cases c16 : (wrap64 (t296 + t297)) ≥ t298
      ·rw [if_pos c16] at H
       have c16b0 : decide (t298 ≤ (wrap64 (t296 + t297))) = true := decide_eq_true c16
       clear c16
       obtain rfl := Option.some.inj H
       go_wp2_with (first | ((first | (with_reducible refine gate_callee (f := 9) rfl ?_); refine goesL_ (some 25) rfl rfl Try.func9 (by kernel_rfl) rfl #[.slice A0 l0.length c0, .slice A1 l1.length c1] rfl (by (try simp only [List.map_toArray, List.map_cons, List.map_nil]); first | done | rfl | (simp only [List.length_drop, List.length_take]; rfl)) ?_ | go_at_call 9); (with_reducible refine (patch_Apply.calls kj4 _ _ l0 _ _ l1 t285 t288 _ ?side1 ?side2 ?side3 ?side4 A11.out).mono ?_); (case side1 => repeat (first | exact (Kd.C_below HR0.out HB.out) | (with_reducible refine Kd.C_alloc ?_ _) | (with_reducible refine Kd.C_drewN ?_ _) | (with_reducible refine Kd.C_drew ?_))); (case side2 => exact HC0.out); (case side3 => repeat (first | exact (Kd.C_below HR1.out HB.out) | (with_reducible refine Kd.C_alloc ?_ _) | (with_reducible refine Kd.C_drewN ?_ _) | (with_reducible refine Kd.C_drew ?_))); (case side4 => exact HC1.out); rintro e w17 ⟨v286, rfl, ho0, hb⟩; (try refine ⟨_, rfl, ?_⟩); have n0_ := Aside0.mk (Kd.N_lower (Kd.N_mono (ok' := fun k_ => True) (by first | exact ho0 | exact Kd.S_N ho0 | exact Kd.R_N ho0) (fun k_ hk_ => trivial)) (below_size (by repeat (first | (with_reducible first | exact HB.out | apply below_alloc | apply pw_below_drewN | apply below_drew1) | exact HB.out)))); have n1_ := Aside0.mk (below_step (by repeat (first | (with_reducible first | exact HB.out | apply below_alloc | apply pw_below_drewN | apply below_drew1) | exact HB.out)) hb); clear HB; have HO287 := n0_; have HB := n1_; clear n0_ n1_; (try clear hb); (try clear hb2); (try clear hk); (try clear hi); (try clear ho0); obtain ⟨Ao18, co18, eo18⟩ := Kd.N_slice HO287.out; subst eo18) | ((first | (with_reducible refine gate_callee (f := 18) rfl ?_); refine goesL_ (some 36) rfl rfl Try.func18 (by kernel_rfl) rfl #[.slice A1 l1.length c1, .slice Ao18 t285.length co18] rfl (by (try simp only [List.map_toArray, List.map_cons, List.map_nil]); first | done | rfl | (simp only [List.length_drop, List.length_take]; rfl)) ?_ | go_at_call 18); (with_reducible refine (tattingref1_Two.calls kj4 (fun k_ => k_ < w.heap.size) _ _ l1 (fun k_ => True) _ _ t285 t289 t292 t295 _ ?side1 ?side2 A13.out).mono ?_); (case side1 => exact Kd.V_mk HC1.out (Kd.F_below (Kd.C_F (Kd.heap_slice 5 (Kd.heap_int .u8)) HR1.out) (by repeat (first | (with_reducible first | exact HB.out | apply below_alloc | apply pw_below_drewN | apply below_drew1) | exact HB.out)))); (case side2 => exact Kd.N_V (HO287.out)); rintro e w19 ⟨v290, v293, rfl, ho0, ho1, hb⟩; (try refine ⟨_, rfl, ?_⟩); have n0_ := Aside0.mk (Kd.N_mono (Kd.N_told (Kd.N_told (Kd.N_old (by (with_reducible repeat (first | apply Kd.N_alloc | apply Kd.N_drewN | apply Kd.N_drew)); exact HO287.out) hb) (Kd.R_base ho0)) (Kd.R_base ho1)) (fun _ h_ => h_.1)); have n1_ := Aside0.mk (Kd.R_lower (Kd.R_mono (ok' := fun k_ => some k_ ≠ (v293 : Value).ownBlock) ho0 (fun _ hk_ => hk_.2)) (below_size (by repeat (first | (with_reducible first | exact HB.out | apply below_alloc | apply pw_below_drewN | apply below_drew1) | exact HB.out)))); have n2_ := Aside0.mk (Kd.R_lower (Kd.R_mono (ok' := fun k_ => some k_ ≠ (v290 : Value).ownBlock) ho1 (fun _ hk_ => hk_.2)) (below_size (by repeat (first | (with_reducible first | exact HB.out | apply below_alloc | apply pw_below_drewN | apply below_drew1) | exact HB.out)))); have n3_ := Aside0.mk (below_step (by repeat (first | (with_reducible first | exact HB.out | apply below_alloc | apply pw_below_drewN | apply below_drew1) | exact HB.out)) hb); clear HO287; clear HB; have HO287 := n0_; have HO291 := n1_; have HO294 := n2_; have HB := n3_; clear n0_ n1_ n2_ n3_; (try clear hb); (try clear hb2); (try clear hk); (try clear hi); (try clear ho0); (try clear ho1)) | ((first | (with_reducible refine gate_callee (f := 21) rfl ?_); refine goesL_ (some 42) rfl rfl Try.func21 (by kernel_rfl) rfl #[.slice A0 l0.length c0] rfl (by (try simp only [List.map_toArray, List.map_cons, List.map_nil]); first | done | rfl | (simp only [List.length_drop, List.length_take]; rfl)) ?_ | go_at_call 21); (with_reducible refine (tattingref24_Count.calls kj4 _ _ l0 t296 t297 _ ?side1 ?side2 A14.out).mono ?_); (case side1 => repeat (first | exact (Kd.C_below HR0.out HB.out) | (with_reducible refine Kd.C_alloc ?_ _) | (with_reducible refine Kd.C_drewN ?_ _) | (with_reducible refine Kd.C_drew ?_))); (case side2 => exact HC0.out); rintro e w' ⟨rfl, ⟨nd, rfl⟩⟩; (try refine ⟨_, rfl, ?_⟩); obtain ⟨Ao20, co20, eo20⟩ := Kd.R_slice HO291.out; subst eo20; obtain ⟨Ao21, co21, eo21⟩ := Kd.R_slice HO294.out; subst eo21) | ((first | (with_reducible refine gate_callee (f := 22) rfl ?_); refine goesL_ (some 50) rfl rfl Try.func22 (by kernel_rfl) rfl #[.slice Ao20 t289.length co20, .slice Ao21 t292.length co21] rfl (by (try simp only [List.map_toArray, List.map_cons, List.map_nil]); first | done | rfl | (simp only [List.length_drop, List.length_take]; rfl)) ?_ | go_at_call 22); (with_reducible refine (tattingref7_Dist.calls kj4 _ _ t289 _ _ t292 t298 _ ?side1 ?side2 ?side3 ?side4 A15.out).mono ?_); (case side1 => repeat (first | exact (Kd.R_reads' HO291.out).2.2 | (with_reducible refine Kd.C_alloc ?_ _) | (with_reducible refine Kd.C_drewN ?_ _) | (with_reducible refine Kd.C_drew ?_))); (case side2 => exact (Kd.R_reads' HO291.out).2.1); (case side3 => repeat (first | exact (Kd.R_reads' HO294.out).2.2 | (with_reducible refine Kd.C_alloc ?_ _) | (with_reducible refine Kd.C_drewN ?_ _) | (with_reducible refine Kd.C_drew ?_))); (case side4 => exact (Kd.R_reads' HO294.out).2.1); rintro e w22 ⟨rfl, hb⟩; (try refine ⟨_, rfl, ?_⟩); have n0_ := Aside0.mk (Kd.N_below (by (with_reducible repeat (first | apply Kd.N_alloc | apply Kd.N_drewN | apply Kd.N_drew)); exact HO287.out) hb); have n1_ := Aside0.mk (Kd.R_below (by (with_reducible repeat (first | apply Kd.R_alloc | apply Kd.R_drewN | apply Kd.R_drew)); exact HO291.out) hb); have n2_ := Aside0.mk (Kd.R_below (by (with_reducible repeat (first | apply Kd.R_alloc | apply Kd.R_drewN | apply Kd.R_drew)); exact HO294.out) hb); have n3_ := Aside0.mk (below_step (by repeat (first | (with_reducible first | exact HB.out | apply below_alloc | apply pw_below_drewN | apply below_drew1) | exact HB.out)) hb); clear HO287; clear HO291; clear HO294; clear HB; have HO287 := n0_; have HO291 := n1_; have HO294 := n2_; have HB := n3_; clear n0_ n1_ n2_ n3_; (try clear hb); (try clear hb2); (try clear hk); (try clear hi)))
       go_ret
       exact ⟨by first | rfl | (simp [errW_none, errW_some] <;> rfl) | (simp [*, errW_none, errW_some] <;> rfl), by repeat (first | (with_reducible first | exact HB.out | apply below_alloc | apply pw_below_drewN | apply below_drew1) | exact HB.out)⟩
      ·rw [if_neg c16] at H
       have c16b0 : decide (t298 ≤ (wrap64 (t296 + t297))) = false := decide_eq_false c16
       clear c16
       exact absurd (Option.some.inj H) (by rw [hr_]; decide)
     ·rw [if_neg c12] at H
      have c12b0 : (t288 == 0) = false := beq_eq_false_iff_ne.mpr c12
      have c12b1 : (t288 != 0) = true := bne_iff_ne.mpr c12
      obtain rfl := Option.some.inj H
      go_wp2_with (first | ((first | (with_reducible refine gate_callee (f := 9) rfl ?_); refine goesL_ (some 25) rfl rfl Try.func9 (by kernel_rfl) rfl #[.slice A0 l0.length c0, .slice A1 l1.length c1] rfl (by (try simp only [List.map_toArray, List.map_cons, List.map_nil]); first | done | rfl | (simp only [List.length_drop, List.length_take]; rfl)) ?_ | go_at_call 9); (with_reducible refine (patch_Apply.calls kj4 _ _ l0 _ _ l1 t285 t288 _ ?side1 ?side2 ?side3 ?side4 A11.out).mono ?_); (case side1 => repeat (first | exact (Kd.C_below HR0.out HB.out) | (with_reducible refine Kd.C_alloc ?_ _) | (with_reducible refine Kd.C_drewN ?_ _) | (with_reducible refine Kd.C_drew ?_))); (case side2 => exact HC0.out); (case side3 => repeat (first | exact (Kd.C_below HR1.out HB.out) | (with_reducible refine Kd.C_alloc ?_ _) | (with_reducible refine Kd.C_drewN ?_ _) | (with_reducible refine Kd.C_drew ?_))); (case side4 => exact HC1.out); rintro e w23 ⟨v286, rfl, ho0, hb⟩; (try refine ⟨_, rfl, ?_⟩); have n0_ := Aside0.mk (Kd.N_lower (Kd.N_mono (ok' := fun k_ => True) (by first | exact ho0 | exact Kd.S_N ho0 | exact Kd.R_N ho0) (fun k_ hk_ => trivial)) (below_size (by repeat (first | (with_reducible first | exact HB.out | apply below_alloc | apply pw_below_drewN | apply below_drew1) | exact HB.out)))); have n1_ := Aside0.mk (below_step (by repeat (first | (with_reducible first | exact HB.out | apply below_alloc | apply pw_below_drewN | apply below_drew1) | exact HB.out)) hb); clear HB; have HO287 := n0_; have HB := n1_; clear n0_ n1_; (try clear hb); (try clear hb2); (try clear hk); (try clear hi); (try clear ho0); obtain ⟨Ao24, co24, eo24⟩ := Kd.N_slice HO287.out; subst eo24))
      go_ret
      exact ⟨by first | rfl | (simp [errW_none, errW_some] <;> rfl) | (simp [*, errW_none, errW_some] <;> rfl), by repeat (first | (with_reducible first | exact HB.out | apply below_alloc | apply pw_below_drewN | apply below_drew1) | exact HB.out)⟩
 ·replace c4 := Bool.eq_false_iff.mpr c4
  subst c4
  have H1 : (some false) = some r := by rw [if_neg (show ¬ (false = true) by decide)] at H; exact H
  clear H
  have H := H1
  clear H1
  exact absurd (Option.some.inj H) (by rw [hr_]; decide)

end Go.Proofs.Ytlodaoijokfblaa.PPatchFewest
