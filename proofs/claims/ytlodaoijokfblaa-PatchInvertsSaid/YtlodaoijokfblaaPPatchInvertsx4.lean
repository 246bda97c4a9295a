/- What the given program's functions come to, each a Lean function and the walk that shows it: no condition beside those that each theorem names. -/
import Derived.Test.YtlodaoijokfblaaPPatchInvertsx0
import Derived.Test.YtlodaoijokfblaaPPatchInvertsx3
namespace Go.Proofs.Ytlodaoijokfblaa.PPatchInverts
open Go.RowKit Go.Proofs.YtlodaoijokfblaaW.PrintWords Go.Proofs.YtlodaoijokfblaaW.PrintLast Go.Proofs.YtlodaoijokfblaaW.PrintMore
attribute [local go_sem] max2_int min2_int max_two min_two max_three min_three max_four min_four   -- for this text's walks alone
set_option linter.unusedVariables false
set_option linter.unusedSimpArgs false

/-! ### tattingref24_Invert: function 16 -/
def tattingref24_Invert.l0 : Nat → List (S28) → List (S28) → Int → Int → Option ((List (S28)) × Int)
 | 0, _, _, _, _ => none
 | k + 1, x0, x4, x5, x6 => if x6 < (x0.length : Int) then (if 0 ≤ x6 then (if (wrap64 (((rd_T28 x0 x6).f0) + x5)) > 1048576 then (some (([] : List (S28)), 2)) else (if x4.length < 2513169434916 then (tattingref24_Invert.l0 k x0 (x4 ++ [(⟨wrap64 (((rd_T28 x0 x6).f0) + x5), (rd_T28 x0 x6).f2, (rd_T28 x0 x6).f1⟩ : S28)]) (wrap64 ((wrap64 (x5 + (((rd_T28 x0 x6).f2).length : Int))) - (((rd_T28 x0 x6).f1).length : Int))) (wrap64 (x6 + 1))) else (none))) else (none)) else (some (x4, 0))
def tattingref24_Invert.f (k : Nat) (l0 : List (S28)) : Option ((List (S28)) × Int) := (tattingref24_Good.f k l0).bind fun t167 => (if t167 = true then (tattingref24_Invert.l0 k l0 ([] : List (S28)) 0 0) else (some (([] : List (S28)), 1)))
theorem tattingref24_Invert.mono_l : ∀ k, (∀ y0 y1 y2 y3, LeO (tattingref24_Invert.l0 k y0 y1 y2 y3) (tattingref24_Invert.l0 (k + 1) y0 y1 y2 y3))
 | 0 => fun _ _ _ _ r h => by simp [tattingref24_Invert.l0] at h
 | k + 1 => by
  have ih0 := tattingref24_Invert.mono_l k
  ·intro y0 y1 y2 y3
   unfold tattingref24_Invert.l0
   repeat' first
   | (with_reducible exact ih0 _ _ _ _)
   | (with_reducible exact tattingref24_Good.mono _ _)
   | (with_reducible exact LeO.refl _)
   | (with_reducible exact LeO.none _)
   | (with_reducible refine LeO.ite ?_ ?_)
   | (with_reducible refine LeO.bind ?_ (fun _ => ?_))
   | exact ih0 _ _ _ _
   | exact tattingref24_Good.mono _ _
   | exact LeO.none _
   | refine LeO.ite ?_ ?_
   | refine LeO.bind ?_ (fun _ => ?_)
theorem tattingref24_Invert.mono : ∀ a0 k, LeO (tattingref24_Invert.f k a0) (tattingref24_Invert.f (k + 1) a0) := by
 intro a0 k
 have ih0 := tattingref24_Invert.mono_l k
 unfold tattingref24_Invert.f
 repeat' first
   | (with_reducible exact ih0 _ _ _ _)
   | (with_reducible exact tattingref24_Good.mono _ _)
   | (with_reducible exact LeO.refl _)
   | (with_reducible exact LeO.none _)
   | (with_reducible refine LeO.ite ?_ ?_)
   | (with_reducible refine LeO.bind ?_ (fun _ => ?_))
   | exact ih0 _ _ _ _
   | exact tattingref24_Good.mono _ _
   | exact LeO.none _
   | refine LeO.ite ?_ ?_
   | refine LeO.bind ?_ (fun _ => ?_)
def tattingref24_Invert.T11 : Bool × List (List Nat × List Nat) := (true, [([], []), ([], []), ([], []), ([], []), ([2, 3], [2, 3]), ([4], [4]), ([5], [5]), ([], []), ([], []), ([7, 8], [7, 8]), ([9], [9]), ([10], [10]), ([1, 6, 11], [1, 6, 11]), ([12], [12]), ([0, 13], [0, 13]), ([14, 14, 0, 1, 2, 3, 4, 5, 6, 7, 8, 9, 10, 11, 12, 13, 14], [0, 14])])
def tattingref24_Invert.B11 : List Nat := [0, 0, 0, 0, 12, 28, 60, 0, 0, 384, 896, 1920, 4094, 8190, 16383, 32767]
theorem tattingref24_Invert.tab11 : rtab .any (opsOf Try.f16 11) = tattingref24_Invert.T11 := by kernel_rfl
theorem tattingref24_Invert.bits11 : waitsOk tattingref24_Invert.T11.2 tattingref24_Invert.B11 = true := by kernel_rfl
def tattingref24_Invert.T12 : Bool × List (List Nat × List Nat) := (true, [([], []), ([], []), ([], []), ([1, 2], [1, 2]), ([3], [3]), ([4], [4]), ([5], [5]), ([0, 6], [0, 6]), ([], []), ([], []), ([8, 9], [8, 9]), ([10], [10]), ([11], [11]), ([12], [12]), ([7, 13], [7, 13]), ([14, 0, 1, 2, 3, 4, 5, 6, 7, 8, 9, 10, 11, 12, 13, 14], [0, 14])])
def tattingref24_Invert.B12 : List Nat := [0, 0, 0, 6, 14, 30, 62, 127, 0, 0, 768, 1792, 3840, 7936, 16383, 32767]
theorem tattingref24_Invert.tab12 : rtab .any (opsOf Try.f16 12) = tattingref24_Invert.T12 := by kernel_rfl
theorem tattingref24_Invert.bits12 : waitsOk tattingref24_Invert.T12.2 tattingref24_Invert.B12 = true := by kernel_rfl
set_option maxHeartbeats 8000000 in
set_option maxRecDepth 100000 in
theorem tattingref24_Invert.calls (k : Nat) (P0_ : Nat → Prop) (A0 : Option Addr) (c0 : Nat) (l0 : List (S28)) (r1 : List (S28)) (r2 : Int) (w : World) (hs0 : Kd.V k28 28 w w.heap.size (fun k_ => P0_ k_) (.slice A0 l0.length c0) l0) (h : tattingref24_Invert.f k l0 = some (r1, r2)) :
  Calls Try.prog 16 #[.slice A0 l0.length c0] w fun e w' => ∃ v0_ : Value, e = .returned (.tuple #[v0_, .int .i64 r2]) ∧ Kd.N k28 28 w' w.heap.size (fun k_ => (P0_ k_ ∨ w.heap.size ≤ k_)) v0_ r1 ∧ Below w.heap.size w w' := by
 have hu28 := Try.underlying28
 have HO0 := Aside0.mk (show Kd.V k28 28 w w.heap.size (fun k_ => (P0_ k_ ∨ w.heap.size ≤ k_)) (.slice A0 l0.length c0) l0 from Kd.V_mono hs0 (fun k_ hk => .inl hk))
 have HB := Aside0.mk (Below.refl w.heap.size w)
 have H : ((tattingref24_Good.f k l0).bind fun t167 => (if t167 = true then (tattingref24_Invert.l0 k l0 ([] : List (S28)) 0 0) else (some (([] : List (S28)), 1)))) = some (r1, r2) := h
 clear h
 replace H := Option.bind_eq_some_iff.mp H
 obtain ⟨t167, A20, H⟩ := H
 replace H : (if t167 = true then (tattingref24_Invert.l0 k l0 ([] : List (S28)) 0 0) else (some (([] : List (S28)), 1))) = some (r1, r2) := H
 have A2 := Aside0.mk A20
 clear A20
 by_cases c3 : t167 = true
 ·subst c3
  have H1 : (tattingref24_Invert.l0 k l0 ([] : List (S28)) 0 0) = some (r1, r2) := by rw [if_pos rfl] at H; exact H
  clear H
  have H := H1
  clear H1
  have H' := Aside0.mk H
  clear H
  go_enter Try.func16, Try.ntmps16
  go_wp2_with (first | ((first | (with_reducible refine gate_callee (f := 26) rfl ?_); refine goesL_ (some 9) rfl rfl Try.func26 (by kernel_rfl) rfl #[.slice A0 l0.length c0] rfl (by (try simp only [List.map_toArray, List.map_cons, List.map_nil]); first | done | rfl | (simp only [List.length_drop, List.length_take]; rfl)) ?_ | go_at_call 26); (with_reducible refine (tattingref24_Good.calls k _ _ l0 true _ ?side1 ?side2 A2.out).mono ?_); (case side1 => repeat (first | exact (Kd.V_reads' HO0.out).2.2 | (with_reducible refine Kd.C_alloc ?_ _) | (with_reducible refine Kd.C_drewN ?_ _) | (with_reducible refine Kd.C_drew ?_))); (case side2 => exact (Kd.V_reads' HO0.out).2.1); rintro e w4 ⟨rfl, hb⟩; (try refine ⟨_, rfl, ?_⟩); have n0_ := Aside0.mk (Kd.V_below (by (with_reducible repeat (first | apply Kd.V_alloc | apply Kd.V_drewN | apply Kd.V_drew)); exact HO0.out) hb); have n1_ := Aside0.mk (below_step (by repeat (first | (with_reducible first | exact HB.out | apply below_alloc | apply pw_below_drewN | apply below_drew1) | exact HB.out)) hb); clear HO0; clear HB; have HO0 := n0_; have HB := n1_; clear n0_ n1_; (try clear hb); (try clear hb2); (try clear hk); (try clear hi)))
  go_loopg [4, 5, 6] k (fun kq v4 v5 v6 w' => ∃ (x4_1 : List (S28)) (x5_1 : Int) (x6_1 : Int), v5 = .int .i64 x5_1 ∧ v6 = .int .i64 x6_1 ∧ Aside0 (tattingref24_Invert.l0 kq l0 x4_1 x5_1 x6_1 = some (r1, r2)) ∧ Aside0 (kq ≤ k) ∧ Aside0 (Kd.V k28 28 w' w.heap.size (fun k_ => (P0_ k_ ∨ w.heap.size ≤ k_) ∧ some k_ ≠ (v4 : Value).ownBlock) (.slice A0 l0.length c0) l0) ∧ Aside0 (Kd.N k28 28 w' w.heap.size (fun k_ => (P0_ k_ ∨ w.heap.size ≤ k_)) v4 x4_1) ∧ Aside0 (Below w.heap.size w w'))
  case atStart => exact ⟨(([] : List (S28))), (0), (0), (by first | rfl | (simp; done) | (simp [*]; done)), (by first | rfl | (simp; done) | (simp [*]; done)), H', ⟨Nat.le_refl _⟩, ⟨by (with_reducible repeat (first | apply Kd.V_alloc | apply Kd.V_drewN | apply Kd.V_drew)); exact Kd.V_mono HO0.out (fun _ hk => ⟨hk, (by simp [Value.ownBlock])⟩)⟩, ⟨by first | exact Kd.R_nil _ _ _ _ _ | exact Kd.N_nil _ _ _ _ _ | exact Kd.V_nil _ _ _ _ _ | exact Kd.Q_nil _ _ _ _ _ | exact Kd.S_nil _ _ _ _ _⟩, ⟨by repeat (first | (with_reducible first | exact HB.out | apply below_alloc | apply pw_below_drewN | apply below_drew1) | exact HB.out)⟩⟩
  case round =>
   clear H'
   try clear c1
   try clear c2
   try clear p2
   try clear c3
   obtain ⟨x4_1, x5_1, x6_1, rfl, rfl, HA, HK1, HO_0, HO_4, HB⟩ := hrel
   cases gk with
   | zero => exact absurd HA.out (by simp [tattingref24_Invert.l0])
   | succ k1 =>
    have H := HA.out
    clear HA
    simp only [tattingref24_Invert.l0] at H
    by_cases c5 : x6_1 < (l0.length : Int)
    ·rw [if_pos c5] at H
     have c5b0 : decide (x6_1 < (l0.length : Int)) = true := decide_eq_true c5
     clear c5
     by_cases c6 : 0 ≤ x6_1
     ·rw [if_pos c6] at H
      have c6b0 : decide (0 ≤ x6_1) = true := decide_eq_true c6
      clear c6
      by_cases c7 : (wrap64 (((rd_T28 l0 x6_1).f0) + x5_1)) > 1048576
      ·rw [if_pos c7] at H
       have c7b0 : decide (1048576 < (wrap64 (((rd_T28 l0 x6_1).f0) + x5_1))) = true := decide_eq_true c7
       clear c7
       simp only [Option.some.injEq, Prod.mk.injEq] at H
       obtain ⟨rfl, rfl⟩ := H
       have p168 : 0 ≤ (x6_1 : Int) := of_decide_eq_true (by first | (with_reducible assumption) | assumption)
       have q168 : x6_1 < (l0.length : Int) := of_decide_eq_true (by first | (with_reducible assumption) | assumption)
       try (obtain ⟨Ap168, cp168, ep168⟩ := Kd.V_slice HO_0.out; subst ep168)
       obtain ⟨ad168, A168_1, c168_1, A168_2, c168_2, e168, hx168_0, hx168_1, hx168_2, hl168_1, hi168_1, hl168_2, hi168_2⟩ := at_T28 (Kd.V_reads' HO_0.out).2.2 x6_1 p168 q168
       cases e168
       obtain ⟨ce168, hce168, hMe168, hcc168⟩ := Kd.V_get HO_0.out z28 x6_1 p168 (by first | exact q168 | exact of_decide_eq_true (by first | (with_reducible assumption) | assumption) | (have e_ := (Kd.V_reads' HO_0.out).1; omega))
       obtain ⟨ua168_1, uc168_1, ua168_2, uc168_2, rfl, ul168_1, ge168_1, ul168_2, ge168_2⟩ := k28_openF hMe168
       have hv168_1 := hcc168 1 _ rfl
       rw [add_field _ _ 1 (by omega)] at hv168_1
       replace hv168_1 := Option.some.inj (hv168_1.symm.trans hx168_1)
       injection hv168_1 with hva_ hvn_ hvc_
       rw [hva_] at ge168_1
       rw [hvc_] at ul168_1
       have HL168_1 := Aside0.mk (show Kd.V (Kd.slice 5 (Kd.int .u8)) 22 _ w.heap.size _ _ ((rd_T28 l0 x6_1).f1) from Kd.V_mk ul168_1 ge168_1)
       clear hva_ hvn_ hvc_ ge168_1 ul168_1
       have hv168_2 := hcc168 2 _ rfl
       rw [add_field _ _ 2 (by omega)] at hv168_2
       replace hv168_2 := Option.some.inj (hv168_2.symm.trans hx168_2)
       injection hv168_2 with hva_ hvn_ hvc_
       rw [hva_] at ge168_2
       rw [hvc_] at ul168_2
       have HL168_2 := Aside0.mk (show Kd.V (Kd.slice 5 (Kd.int .u8)) 22 _ w.heap.size _ _ ((rd_T28 l0 x6_1).f2) from Kd.V_mk ul168_2 ge168_2)
       clear hva_ hvn_ hvc_ ge168_2 ul168_2
       clear hcc168 hce168
       have HR168_1 := Aside0.mk hi168_1
       have HC168_1 := Aside0.mk hl168_1
       clear hi168_1 hl168_1
       have HR168_2 := Aside0.mk hi168_2
       have HC168_2 := Aside0.mk hl168_2
       clear hi168_2 hl168_2
       replace p168 := eq_true p168
       replace q168 := eq_true q168
       go_wp2
       go_ret2
       exact ⟨_, by first | rfl | (simp [errW_none, errW_some] <;> rfl) | (simp [*, errW_none, errW_some] <;> rfl), by first | exact Kd.R_nil _ _ _ _ _ | exact Kd.N_nil _ _ _ _ _ | exact Kd.V_nil _ _ _ _ _ | exact Kd.Q_nil _ _ _ _ _ | exact Kd.S_nil _ _ _ _ _, by repeat (first | (with_reducible first | exact HB.out | apply below_alloc | apply pw_below_drewN | apply below_drew1) | exact HB.out)⟩
      ·rw [if_neg c7] at H
       have c7b0 : decide (1048576 < (wrap64 (((rd_T28 l0 x6_1).f0) + x5_1))) = false := decide_eq_false c7
       clear c7
       by_cases c8 : x4_1.length < 2513169434916
       ·rw [if_pos c8] at H
        have LMc8 := Aside0.mk c8
        clear c8
        obtain ⟨y171, hy171⟩ : ∃ y_ : List (S28), y_ = (x4_1 ++ [(⟨wrap64 (((rd_T28 l0 x6_1).f0) + x5_1), (rd_T28 l0 x6_1).f2, (rd_T28 l0 x6_1).f1⟩ : S28)]) := ⟨_, rfl⟩
        replace H : (tattingref24_Invert.l0 k1 l0 y171 (wrap64 ((wrap64 (x5_1 + (((rd_T28 l0 x6_1).f2).length : Int))) - (((rd_T28 l0 x6_1).f1).length : Int))) (wrap64 (x6_1 + 1))) = some (r1, r2) := by first | (rw [hy171]; with_reducible exact H) | (have H2_ := (Option.bind_some _ _).symm.trans H; rw [hy171]; with_reducible exact H2_) | (have H2_ := (Option.bind_some _ _).symm.trans H; with_reducible exact H2_) | with_reducible exact H | (rw [hy171]; exact H) | exact H
        have Ny171 := Aside0.mk hy171
        clear hy171
        have H' := Aside0.mk H
        clear H
        have p168 : 0 ≤ (x6_1 : Int) := of_decide_eq_true (by first | (with_reducible assumption) | assumption)
        have q168 : x6_1 < (l0.length : Int) := of_decide_eq_true (by first | (with_reducible assumption) | assumption)
        try (obtain ⟨Ap168, cp168, ep168⟩ := Kd.V_slice HO_0.out; subst ep168)
        obtain ⟨ad168, A168_1, c168_1, A168_2, c168_2, e168, hx168_0, hx168_1, hx168_2, hl168_1, hi168_1, hl168_2, hi168_2⟩ := at_T28 (Kd.V_reads' HO_0.out).2.2 x6_1 p168 q168
        cases e168
        obtain ⟨ce168, hce168, hMe168, hcc168⟩ := Kd.V_get HO_0.out z28 x6_1 p168 (by first | exact q168 | exact of_decide_eq_true (by first | (with_reducible assumption) | assumption) | (have e_ := (Kd.V_reads' HO_0.out).1; omega))
        obtain ⟨ua168_1, uc168_1, ua168_2, uc168_2, rfl, ul168_1, ge168_1, ul168_2, ge168_2⟩ := k28_openF hMe168
        have hv168_1 := hcc168 1 _ rfl
        rw [add_field _ _ 1 (by omega)] at hv168_1
        replace hv168_1 := Option.some.inj (hv168_1.symm.trans hx168_1)
        injection hv168_1 with hva_ hvn_ hvc_
        rw [hva_] at ge168_1
        rw [hvc_] at ul168_1
        have HL168_1 := Aside0.mk (show Kd.V (Kd.slice 5 (Kd.int .u8)) 22 _ w.heap.size _ _ ((rd_T28 l0 x6_1).f1) from Kd.V_mk ul168_1 ge168_1)
        clear hva_ hvn_ hvc_ ge168_1 ul168_1
        have hv168_2 := hcc168 2 _ rfl
        rw [add_field _ _ 2 (by omega)] at hv168_2
        replace hv168_2 := Option.some.inj (hv168_2.symm.trans hx168_2)
        injection hv168_2 with hva_ hvn_ hvc_
        rw [hva_] at ge168_2
        rw [hvc_] at ul168_2
        have HL168_2 := Aside0.mk (show Kd.V (Kd.slice 5 (Kd.int .u8)) 22 _ w.heap.size _ _ ((rd_T28 l0 x6_1).f2) from Kd.V_mk ul168_2 ge168_2)
        clear hva_ hvn_ hvc_ ge168_2 ul168_2
        clear hcc168 hce168
        have HR168_1 := Aside0.mk hi168_1
        have HC168_1 := Aside0.mk hl168_1
        clear hi168_1 hl168_1
        have HR168_2 := Aside0.mk hi168_2
        have HC168_2 := Aside0.mk hl168_2
        clear hi168_2 hl168_2
        replace p168 := eq_true p168
        replace q168 := eq_true q168
        try go_wp2
        have n0_ := Aside0.mk (Kd.V_drew HO_0.out)
        have n1_ := Aside0.mk (Kd.N_drew HO_4.out)
        have n2_ := Aside0.mk (Kd.V_drew HL168_1.out)
        have n3_ := Aside0.mk (Kd.V_drew HL168_2.out)
        have n4_ := Aside0.mk (Kd.C_drew HR168_1.out)
        have n5_ := Aside0.mk (Kd.C_drew HR168_2.out)
        have n6_ := Aside0.mk (below_drew1 HB.out)
        clear HO_0
        clear HO_4
        clear HL168_1
        clear HL168_2
        clear HR168_1
        clear HR168_2
        clear HB
        have HO_0 := n0_
        have HO_4 := n1_
        have HL168_1 := n2_
        have HL168_2 := n3_
        have HR168_1 := n4_
        have HR168_2 := n5_
        have HB := n6_
        clear n0_ n1_ n2_ n3_ n4_ n5_ n6_
        have p169 : 0 ≤ (x6_1 : Int) := of_decide_eq_true (by first | (with_reducible assumption) | assumption)
        have q169 : x6_1 < (l0.length : Int) := of_decide_eq_true (by first | (with_reducible assumption) | assumption)
        try (obtain ⟨Ap169, cp169, ep169⟩ := Kd.V_slice HO_0.out; subst ep169)
        obtain ⟨ad169, A169_1, c169_1, A169_2, c169_2, e169, hx169_0, hx169_1, hx169_2, hl169_1, hi169_1, hl169_2, hi169_2⟩ := at_T28 (Kd.V_reads' HO_0.out).2.2 x6_1 p169 q169
        obtain rfl : ad168 = ad169 := (by injection e169)
        obtain ⟨ce169, hce169, hMe169, hcc169⟩ := Kd.V_get HO_0.out z28 x6_1 p169 (by first | exact q169 | exact of_decide_eq_true (by first | (with_reducible assumption) | assumption) | (have e_ := (Kd.V_reads' HO_0.out).1; omega))
        obtain ⟨ua169_1, uc169_1, ua169_2, uc169_2, rfl, ul169_1, ge169_1, ul169_2, ge169_2⟩ := k28_openF hMe169
        have hv169_1 := hcc169 1 _ rfl
        rw [add_field _ _ 1 (by omega)] at hv169_1
        replace hv169_1 := Option.some.inj (hv169_1.symm.trans hx169_1)
        injection hv169_1 with hva_ hvn_ hvc_
        rw [hva_] at ge169_1
        rw [hvc_] at ul169_1
        have HL169_1 := Aside0.mk (show Kd.V (Kd.slice 5 (Kd.int .u8)) 22 _ w.heap.size _ _ ((rd_T28 l0 x6_1).f1) from Kd.V_mk ul169_1 ge169_1)
        clear hva_ hvn_ hvc_ ge169_1 ul169_1
        have hv169_2 := hcc169 2 _ rfl
        rw [add_field _ _ 2 (by omega)] at hv169_2
        replace hv169_2 := Option.some.inj (hv169_2.symm.trans hx169_2)
        injection hv169_2 with hva_ hvn_ hvc_
        rw [hva_] at ge169_2
        rw [hvc_] at ul169_2
        have HL169_2 := Aside0.mk (show Kd.V (Kd.slice 5 (Kd.int .u8)) 22 _ w.heap.size _ _ ((rd_T28 l0 x6_1).f2) from Kd.V_mk ul169_2 ge169_2)
        clear hva_ hvn_ hvc_ ge169_2 ul169_2
        clear hcc169 hce169
        have HR169_1 := Aside0.mk hi169_1
        have HC169_1 := Aside0.mk hl169_1
        clear hi169_1 hl169_1
        have HR169_2 := Aside0.mk hi169_2
        have HC169_2 := Aside0.mk hl169_2
        clear hi169_2 hl169_2
        replace p169 := eq_true p169
        replace q169 := eq_true q169
        have p170 : 0 ≤ (x6_1 : Int) := of_decide_eq_true (by first | (with_reducible assumption) | assumption)
        have q170 : x6_1 < (l0.length : Int) := of_decide_eq_true (by first | (with_reducible assumption) | assumption)
        try (obtain ⟨Ap170, cp170, ep170⟩ := Kd.V_slice HO_0.out; subst ep170)
        obtain ⟨ad170, A170_1, c170_1, A170_2, c170_2, e170, hx170_0, hx170_1, hx170_2, hl170_1, hi170_1, hl170_2, hi170_2⟩ := at_T28 (Kd.V_reads' HO_0.out).2.2 x6_1 p170 q170
        obtain rfl : ad168 = ad170 := (by injection e170)
        obtain ⟨ce170, hce170, hMe170, hcc170⟩ := Kd.V_get HO_0.out z28 x6_1 p170 (by first | exact q170 | exact of_decide_eq_true (by first | (with_reducible assumption) | assumption) | (have e_ := (Kd.V_reads' HO_0.out).1; omega))
        obtain ⟨ua170_1, uc170_1, ua170_2, uc170_2, rfl, ul170_1, ge170_1, ul170_2, ge170_2⟩ := k28_openF hMe170
        have hv170_1 := hcc170 1 _ rfl
        rw [add_field _ _ 1 (by omega)] at hv170_1
        replace hv170_1 := Option.some.inj (hv170_1.symm.trans hx170_1)
        injection hv170_1 with hva_ hvn_ hvc_
        rw [hva_] at ge170_1
        rw [hvc_] at ul170_1
        have HL170_1 := Aside0.mk (show Kd.V (Kd.slice 5 (Kd.int .u8)) 22 _ w.heap.size _ _ ((rd_T28 l0 x6_1).f1) from Kd.V_mk ul170_1 ge170_1)
        clear hva_ hvn_ hvc_ ge170_1 ul170_1
        have hv170_2 := hcc170 2 _ rfl
        rw [add_field _ _ 2 (by omega)] at hv170_2
        replace hv170_2 := Option.some.inj (hv170_2.symm.trans hx170_2)
        injection hv170_2 with hva_ hvn_ hvc_
        rw [hva_] at ge170_2
        rw [hvc_] at ul170_2
        have HL170_2 := Aside0.mk (show Kd.V (Kd.slice 5 (Kd.int .u8)) 22 _ w.heap.size _ _ ((rd_T28 l0 x6_1).f2) from Kd.V_mk ul170_2 ge170_2)
        clear hva_ hvn_ hvc_ ge170_2 ul170_2
        clear hcc170 hce170
        have HR170_1 := Aside0.mk hi170_1
        have HC170_1 := Aside0.mk hl170_1
        clear hi170_1 hl170_1
        have HR170_2 := Aside0.mk hi170_2
        have HC170_2 := Aside0.mk hl170_2
        clear hi170_2 hl170_2
        replace p170 := eq_true p170
        replace q170 := eq_true q170
        have ea_ := Option.some.inj (hx169_1.symm.trans hx170_1)
        injection ea_ with ea_ en_ ec_
        subst ea_
        subst ec_
        clear en_
        have ea_ := Option.some.inj (hx169_2.symm.trans hx170_2)
        injection ea_ with ea_ en_ ec_
        subst ea_
        subst ec_
        clear en_
        refine start_ (n := 16) (S := fun w' => w'.cell? (ad168.add ((x6_1).toNat * 3)) = some (.int .i64 ((rd_T28 l0 x6_1).f0)) ∧ w'.cell? ⟨(ad168.add ((x6_1).toNat * 3)).block, (ad168.add ((x6_1).toNat * 3)).off + 1, none⟩ = some (.slice A169_1 ((rd_T28 l0 x6_1).f1).length c169_1) ∧ w'.cell? ⟨(ad168.add ((x6_1).toNat * 3)).block, (ad168.add ((x6_1).toNat * 3)).off + 2, none⟩ = some (.slice A169_2 ((rd_T28 l0 x6_1).f2).length c169_2) ∧ w'.cell? (ad168.add ((x6_1).toNat * 3)) = some (.int .i64 ((rd_T28 l0 x6_1).f0)) ∧ w'.cell? ⟨(ad168.add ((x6_1).toNat * 3)).block, (ad168.add ((x6_1).toNat * 3)).off + 1, none⟩ = some (.slice A169_1 ((rd_T28 l0 x6_1).f1).length c169_1) ∧ w'.cell? ⟨(ad168.add ((x6_1).toNat * 3)).block, (ad168.add ((x6_1).toNat * 3)).off + 2, none⟩ = some (.slice A169_2 ((rd_T28 l0 x6_1).f2).length c169_2)) (ds := [13, 14]) #[N,N,N,N,N,N,N,N,N,N,N,N,N,N,N,N] (by kernel_rfl) rfl rfl ⟨hx169_0, hx169_1, hx169_2, hx170_0, hx170_1, hx170_2⟩ (fun hHeld => ?_); refine with_tabW tattingref24_Invert.tab11 tattingref24_Invert.bits11 (fun HT_ HW_ => ?_)
        generalize wr.drew = w9 at HO_0 HO_4 HL168_1 HL168_2 HR168_1 HR168_2 HB HL169_1 HL169_2 HL170_1 HL170_2 HR169_1 HR169_2 HR170_1 HR170_2 hx169_0 hx169_1 hx169_2 hx170_0 hx170_1 hx170_2 hHeld ⊢
        refine pure_ (i := 0) (N := some 26) (v := ?_) (a' := ?_) #[Y,N,N,N,N,N,N,N,N,N,N,N,N,N,N,N] rfl rfl (any_of HT_.out (by kernel_rfl)) (fun _ _ _ h => h) (Or.inl ⟨by rfl, ?_⟩) ?_ ?_; rotate_left
        ·intro w'; go_simp; with_reducible rfl
        rotate_left
        ·simp only [Act.put, sA,sB,sC, i64_w, i32_w]; rfl
        refine pure_ (i := 1) (N := some 27) (v := ?_) (a' := ?_) #[Y,Y,N,N,N,N,N,N,N,N,N,N,N,N,N,N] rfl rfl (any_of HT_.out (by kernel_rfl)) (fun _ _ _ h => h) (Or.inl ⟨by rfl, ?_⟩) ?_ ?_; rotate_left
        ·intro w'; go_simp; with_reducible rfl
        rotate_left
        ·simp only [Act.put, sA,sB,sC, i64_w, i32_w]; rfl
        refine pure_ (i := 2) (N := some 28) (v := ?_) (a' := ?_) #[Y,Y,Y,N,N,N,N,N,N,N,N,N,N,N,N,N] rfl rfl (any_of HT_.out (by kernel_rfl)) (fun _ _ _ h => h) (Or.inl ⟨by rfl, ?_⟩) ?_ ?_; rotate_left
        ·intro w'; go_simp; with_reducible rfl
        rotate_left
        ·simp only [Act.put, sA,sB,sC, i64_w, i32_w]; rfl
        refine pure_ (i := 3) (N := some 29) (v := ?_) (a' := ?_) #[Y,Y,Y,Y,N,N,N,N,N,N,N,N,N,N,N,N] rfl rfl (any_of HT_.out (by kernel_rfl)) (fun _ _ _ h => h) (Or.inl ⟨by rfl, ?_⟩) ?_ ?_; rotate_left
        ·intro w'; go_simp; with_reducible rfl
        rotate_left
        ·simp only [Act.put, sA,sB,sC, i64_w, i32_w]; rfl
        refine pure_ (i := 4) (N := some 30) (v := ?_) (a' := ?_) #[Y,Y,Y,Y,Y,N,N,N,N,N,N,N,N,N,N,N] rfl rfl (any_of HT_.out (by kernel_rfl)) (fun _ _ _ h => h) (Or.inl ⟨by rfl, ?_⟩) ?_ ?_; rotate_left
        ·intro w'; go_simp; with_reducible rfl
        rotate_left
        ·simp only [Act.put, sA,sB,sC, i64_w, i32_w]; rfl
        refine pure_ (i := 5) (N := some 31) (v := ?_) (a' := ?_) #[Y,Y,Y,Y,Y,Y,N,N,N,N,N,N,N,N,N,N] rfl rfl (any_of HT_.out (by kernel_rfl)) (fun _ _ _ h => h) (Or.inl ⟨by rfl, ?_⟩) ?_ ?_; rotate_left
        ·intro w'; go_simp; with_reducible rfl
        rotate_left
        ·simp only [Act.put, sA,sB,sC, i64_w, i32_w]; rfl
        refine pure_ (i := 7) (N := some 33) (v := ?_) (a' := ?_) #[Y,Y,Y,Y,Y,Y,N,Y,N,N,N,N,N,N,N,N] rfl rfl (any_of HT_.out (by kernel_rfl)) (fun _ _ _ h => h) (Or.inl ⟨by rfl, ?_⟩) ?_ ?_; rotate_left
        ·intro w'; go_simp; with_reducible rfl
        rotate_left
        ·simp only [Act.put, sA,sB,sC, i64_w, i32_w]; rfl
        refine pure_ (i := 8) (N := some 34) (v := ?_) (a' := ?_) #[Y,Y,Y,Y,Y,Y,N,Y,Y,N,N,N,N,N,N,N] rfl rfl (any_of HT_.out (by kernel_rfl)) (fun _ _ _ h => h) (Or.inl ⟨by rfl, ?_⟩) ?_ ?_; rotate_left
        ·intro w'; go_simp; with_reducible rfl
        rotate_left
        ·simp only [Act.put, sA,sB,sC, i64_w, i32_w]; rfl
        refine pure_ (i := 9) (N := some 35) (v := ?_) (a' := ?_) #[Y,Y,Y,Y,Y,Y,N,Y,Y,Y,N,N,N,N,N,N] rfl rfl (any_of HT_.out (by kernel_rfl)) (fun _ _ _ h => h) (Or.inl ⟨by rfl, ?_⟩) ?_ ?_; rotate_left
        ·intro w'; go_simp; with_reducible rfl
        rotate_left
        ·simp only [Act.put, sA,sB,sC, i64_w, i32_w]; rfl
        refine pure_ (i := 10) (N := some 36) (v := ?_) (a' := ?_) #[Y,Y,Y,Y,Y,Y,N,Y,Y,Y,Y,N,N,N,N,N] rfl rfl (any_of HT_.out (by kernel_rfl)) (fun _ _ _ h => h) (Or.inl ⟨by rfl, ?_⟩) ?_ ?_; rotate_left
        ·intro w'; go_simp; with_reducible rfl
        rotate_left
        ·simp only [Act.put, sA,sB,sC, i64_w, i32_w]; rfl
        refine take_ (i := 6) (N := some 32) (v := ?_) (a' := ?_) #[Y,Y,Y,Y,Y,Y,Y,Y,Y,Y,Y,N,N,N,N,N] rfl rfl (take_ofW HT_.out HW_.out (by kernel_rfl)) (fun _ _ _ h => h) (Or.inl ⟨by rfl, ?_⟩) hHeld ?_ ?_; rotate_left
        ·rintro w' ⟨s0, s1, s2, s3, s4, s5⟩; go_simp; with_reducible rfl
        rotate_left
        ·simp only [Act.put, sA,sB,sC, i64_w, i32_w]; rfl
        refine take_ (i := 11) (N := some 37) (v := ?_) (a' := ?_) #[Y,Y,Y,Y,Y,Y,Y,Y,Y,Y,Y,Y,N,N,N,N] rfl rfl (take_ofW HT_.out HW_.out (by kernel_rfl)) (fun _ _ _ h => h) (Or.inl ⟨by rfl, ?_⟩) hHeld ?_ ?_; rotate_left
        ·rintro w' ⟨s0, s1, s2, s3, s4, s5⟩; go_simp; with_reducible rfl
        rotate_left
        ·simp only [Act.put, sA,sB,sC, i64_w, i32_w]; rfl
        refine pure_ (i := 12) (N := some 38) (v := ?_) (a' := ?_) #[Y,Y,Y,Y,Y,Y,Y,Y,Y,Y,Y,Y,Y,N,N,N] rfl rfl (any_of HT_.out (by kernel_rfl)) (fun _ _ _ h => h) (Or.inl ⟨by rfl, ?_⟩) ?_ ?_; rotate_left
        ·intro w'; go_simp; with_reducible rfl
        rotate_left
        ·simp only [Act.put, sA,sB,sC, i64_w, i32_w]; rfl
        refine last_ (i := 13) (N := some 39) #[Y,Y,Y,Y,Y,Y,Y,Y,Y,Y,Y,Y,Y,Y,N,N] rfl rfl (one_of HT_.out (by kernel_rfl)) (by decide) (fun K hK => ?_)
        refine value_ (w1 := ?_) (v := ?_) (by rfl) rfl ?_ ?_
        rotate_left 2
        ·go_simp
         constructor
         ·rfl
         ·rfl
        refine hK.out _ _ ?_
        clear hK K
        refine norm_ (a' := ?_) ?_ ?_
        rotate_left
        ·show Act.put _ (some 39) _ = _
         simp only [Act.put, sA,sB,sC, i64_w, i32_w]; rfl
        refine last_ (i := 14) (N := some 40) #[Y,Y,Y,Y,Y,Y,Y,Y,Y,Y,Y,Y,Y,Y,Y,N] rfl rfl (one_of HT_.out (by kernel_rfl)) (by decide) (fun K hK => ?_)
        refine Kd.N_append_step k28 (w0 := w) w.heap.size (by rfl) (.tmp 26) (.tmp 39) 29 28 (.agg #[(.int .i64 0), (.slice none 0 0), (.slice none 0 0)]) 56 rfl Try.underlying29 info28 rfl (by decide) (by omega) u4 x4_1 (⟨wrap64 (((rd_T28 l0 x6_1).f0) + x5_1), (rd_T28 l0 x6_1).f2, (rd_T28 l0 x6_1).f1⟩ : S28) [.int .i64 (wrap64 (((rd_T28 l0 x6_1).f0) + x5_1)), .slice A169_2 ((rd_T28 l0 x6_1).f2).length c169_2, .slice A169_1 ((rd_T28 l0 x6_1).f1).length c169_1] (fun k_ => (P0_ k_ ∨ w.heap.size ≤ k_)) (fun k_ => ((fun k_ => (P0_ k_ ∨ w.heap.size ≤ k_))) k_ ∧ some k_ ≠ (u4 : Value).ownBlock) rfl rfl ?aP (fun _ hk => hk) ?aF ?aO ?aB ?aS ?aL ?_
        (case aP => exact (k28_mkF _ _ (⟨wrap64 (((rd_T28 l0 x6_1).f0) + x5_1), (rd_T28 l0 x6_1).f2, (rd_T28 l0 x6_1).f1⟩ : S28) (Kd.V_reads' (Kd.V_mono (ok' := (fun k_ => ((fun k_ => (P0_ k_ ∨ w.heap.size ≤ k_))) k_ ∧ some k_ ≠ (u4 : Value).ownBlock)) (HL169_2.out) (fun k_ hk => ⟨hk.1, hk.2⟩))).2.1 (Kd.V_F (Kd.V_mono (ok' := (fun k_ => ((fun k_ => (P0_ k_ ∨ w.heap.size ≤ k_))) k_ ∧ some k_ ≠ (u4 : Value).ownBlock)) (HL169_2.out) (fun k_ hk => ⟨hk.1, hk.2⟩))) (Kd.V_reads' (Kd.V_mono (ok' := (fun k_ => ((fun k_ => (P0_ k_ ∨ w.heap.size ≤ k_))) k_ ∧ some k_ ≠ (u4 : Value).ownBlock)) (HL170_1.out) (fun k_ hk => ⟨hk.1, hk.2⟩))).2.1 (Kd.V_F (Kd.V_mono (ok' := (fun k_ => ((fun k_ => (P0_ k_ ∨ w.heap.size ≤ k_))) k_ ∧ some k_ ≠ (u4 : Value).ownBlock)) (HL170_1.out) (fun k_ hk => ⟨hk.1, hk.2⟩)))))
        (case aB => exact (by repeat (first | (with_reducible first | exact HB.out | apply below_alloc | apply pw_below_drewN | apply below_drew1) | exact HB.out)))
        (case aF => exact (fun k_ hk => (.inr (Nat.le_trans (below_size (by repeat (first | (with_reducible first | exact HB.out | apply below_alloc | apply pw_below_drewN | apply below_drew1) | exact HB.out))) hk))))
        (case aO => exact (by (with_reducible repeat (first | apply Kd.N_alloc | apply Kd.N_drewN | apply Kd.N_drew)); exact HO_4.out))
        (case aS => exact (below_size (by repeat (first | (with_reducible first | exact HB.out | apply below_alloc | apply pw_below_drewN | apply below_drew1) | exact HB.out))))
        (case aL => have := LMc8.out; omega)
        intro v172 w10 ho hb hg hat
        rw [← Ny171.out] at ho
        have n0_ := Aside0.mk (Kd.V_afterv (ok := (fun k_ => (P0_ k_ ∨ w.heap.size ≤ k_))) (by (with_reducible repeat (first | apply Kd.V_alloc | apply Kd.V_drewN | apply Kd.V_drew)); exact HO_0.out) hg hat)
        have n1_ := Aside0.mk (Kd.V_afterv (ok := (fun k_ => (P0_ k_ ∨ w.heap.size ≤ k_))) (by (with_reducible repeat (first | apply Kd.V_alloc | apply Kd.V_drewN | apply Kd.V_drew)); exact HL168_1.out) hg hat)
        have n2_ := Aside0.mk (Kd.V_afterv (ok := (fun k_ => (P0_ k_ ∨ w.heap.size ≤ k_))) (by (with_reducible repeat (first | apply Kd.V_alloc | apply Kd.V_drewN | apply Kd.V_drew)); exact HL168_2.out) hg hat)
        have n3_ := Aside0.mk (Kd.V_afterv (ok := (fun k_ => (P0_ k_ ∨ w.heap.size ≤ k_))) (by (with_reducible repeat (first | apply Kd.V_alloc | apply Kd.V_drewN | apply Kd.V_drew)); exact HL169_1.out) hg hat)
        have n4_ := Aside0.mk (Kd.V_afterv (ok := (fun k_ => (P0_ k_ ∨ w.heap.size ≤ k_))) (by (with_reducible repeat (first | apply Kd.V_alloc | apply Kd.V_drewN | apply Kd.V_drew)); exact HL169_2.out) hg hat)
        have n5_ := Aside0.mk (Kd.V_afterv (ok := (fun k_ => (P0_ k_ ∨ w.heap.size ≤ k_))) (by (with_reducible repeat (first | apply Kd.V_alloc | apply Kd.V_drewN | apply Kd.V_drew)); exact HL170_1.out) hg hat)
        have n6_ := Aside0.mk (Kd.V_afterv (ok := (fun k_ => (P0_ k_ ∨ w.heap.size ≤ k_))) (by (with_reducible repeat (first | apply Kd.V_alloc | apply Kd.V_drewN | apply Kd.V_drew)); exact HL170_2.out) hg hat)
        have n7_ := Aside0.mk (hb)
        have n8_ := Aside0.mk (ho)
        clear HO_0
        clear HL168_1
        clear HL168_2
        clear HL169_1
        clear HL169_2
        clear HL170_1
        clear HL170_2
        clear HB
        clear HO_4
        have HO_0 := n0_
        have HL168_1 := n1_
        have HL168_2 := n2_
        have HL169_1 := n3_
        have HL169_2 := n4_
        have HL170_1 := n5_
        have HL170_2 := n6_
        have HB := n7_
        have HO173 := n8_
        clear n0_ n1_ n2_ n3_ n4_ n5_ n6_ n7_ n8_
        clear ho hb hg hat
        refine hK.out _ _ ?_
        clear hK K
        refine norm_ (a' := ?_) ?_ ?_
        rotate_left
        ·show Act.put _ (some 40) _ = _
         simp only [Act.put, sA,sB,sC, i64_w, i32_w]; rfl
        refine pure_ (i := 15) (N := some 4) (v := ?_) (a' := ?_) #[Y,Y,Y,Y,Y,Y,Y,Y,Y,Y,Y,Y,Y,Y,Y,Y] rfl rfl (any_of HT_.out (by kernel_rfl)) (fun _ _ _ h => h) (Or.inl ⟨by rfl, ?_⟩) ?_ ?_; rotate_left
        ·intro w'; go_simp; with_reducible rfl
        rotate_left
        ·simp only [Act.put, sA,sB,sC, i64_w, i32_w]; rfl
        refine done_ (done_of HT_.out (by kernel_rfl)) ?_
        try go_wp2
        have n0_ := Aside0.mk (Kd.V_drew HO_0.out)
        have n1_ := Aside0.mk (Kd.V_drew HL168_1.out)
        have n2_ := Aside0.mk (Kd.V_drew HL168_2.out)
        have n3_ := Aside0.mk (Kd.V_drew HL169_1.out)
        have n4_ := Aside0.mk (Kd.V_drew HL169_2.out)
        have n5_ := Aside0.mk (Kd.V_drew HL170_1.out)
        have n6_ := Aside0.mk (Kd.V_drew HL170_2.out)
        have n7_ := Aside0.mk (Kd.N_drew HO173.out)
        have n8_ := Aside0.mk (below_drew1 HB.out)
        clear HO_0
        clear HL168_1
        clear HL168_2
        clear HL169_1
        clear HL169_2
        clear HL170_1
        clear HL170_2
        clear HO173
        clear HB
        have HO_0 := n0_
        have HL168_1 := n1_
        have HL168_2 := n2_
        have HL169_1 := n3_
        have HL169_2 := n4_
        have HL170_1 := n5_
        have HL170_2 := n6_
        have HO173 := n7_
        have HB := n8_
        clear n0_ n1_ n2_ n3_ n4_ n5_ n6_ n7_ n8_
        have p174 : 0 ≤ (x6_1 : Int) := of_decide_eq_true (by first | (with_reducible assumption) | assumption)
        have q174 : x6_1 < (l0.length : Int) := of_decide_eq_true (by first | (with_reducible assumption) | assumption)
        try (obtain ⟨Ap174, cp174, ep174⟩ := Kd.V_slice HO_0.out; subst ep174)
        obtain ⟨ad174, A174_1, c174_1, A174_2, c174_2, e174, hx174_0, hx174_1, hx174_2, hl174_1, hi174_1, hl174_2, hi174_2⟩ := at_T28 (Kd.V_reads' HO_0.out).2.2 x6_1 p174 q174
        obtain rfl : ad168 = ad174 := (by injection e174)
        obtain ⟨ce174, hce174, hMe174, hcc174⟩ := Kd.V_get HO_0.out z28 x6_1 p174 (by first | exact q174 | exact of_decide_eq_true (by first | (with_reducible assumption) | assumption) | (have e_ := (Kd.V_reads' HO_0.out).1; omega))
        obtain ⟨ua174_1, uc174_1, ua174_2, uc174_2, rfl, ul174_1, ge174_1, ul174_2, ge174_2⟩ := k28_openF hMe174
        have hv174_1 := hcc174 1 _ rfl
        rw [add_field _ _ 1 (by omega)] at hv174_1
        replace hv174_1 := Option.some.inj (hv174_1.symm.trans hx174_1)
        injection hv174_1 with hva_ hvn_ hvc_
        rw [hva_] at ge174_1
        rw [hvc_] at ul174_1
        have HL174_1 := Aside0.mk (show Kd.V (Kd.slice 5 (Kd.int .u8)) 22 _ w.heap.size _ _ ((rd_T28 l0 x6_1).f1) from Kd.V_mk ul174_1 ge174_1)
        clear hva_ hvn_ hvc_ ge174_1 ul174_1
        have hv174_2 := hcc174 2 _ rfl
        rw [add_field _ _ 2 (by omega)] at hv174_2
        replace hv174_2 := Option.some.inj (hv174_2.symm.trans hx174_2)
        injection hv174_2 with hva_ hvn_ hvc_
        rw [hva_] at ge174_2
        rw [hvc_] at ul174_2
        have HL174_2 := Aside0.mk (show Kd.V (Kd.slice 5 (Kd.int .u8)) 22 _ w.heap.size _ _ ((rd_T28 l0 x6_1).f2) from Kd.V_mk ul174_2 ge174_2)
        clear hva_ hvn_ hvc_ ge174_2 ul174_2
        clear hcc174 hce174
        have HR174_1 := Aside0.mk hi174_1
        have HC174_1 := Aside0.mk hl174_1
        clear hi174_1 hl174_1
        have HR174_2 := Aside0.mk hi174_2
        have HC174_2 := Aside0.mk hl174_2
        clear hi174_2 hl174_2
        replace p174 := eq_true p174
        replace q174 := eq_true q174
        have p175 : 0 ≤ (x6_1 : Int) := of_decide_eq_true (by first | (with_reducible assumption) | assumption)
        have q175 : x6_1 < (l0.length : Int) := of_decide_eq_true (by first | (with_reducible assumption) | assumption)
        try (obtain ⟨Ap175, cp175, ep175⟩ := Kd.V_slice HO_0.out; subst ep175)
        obtain ⟨ad175, A175_1, c175_1, A175_2, c175_2, e175, hx175_0, hx175_1, hx175_2, hl175_1, hi175_1, hl175_2, hi175_2⟩ := at_T28 (Kd.V_reads' HO_0.out).2.2 x6_1 p175 q175
        obtain rfl : ad168 = ad175 := (by injection e175)
        obtain ⟨ce175, hce175, hMe175, hcc175⟩ := Kd.V_get HO_0.out z28 x6_1 p175 (by first | exact q175 | exact of_decide_eq_true (by first | (with_reducible assumption) | assumption) | (have e_ := (Kd.V_reads' HO_0.out).1; omega))
        obtain ⟨ua175_1, uc175_1, ua175_2, uc175_2, rfl, ul175_1, ge175_1, ul175_2, ge175_2⟩ := k28_openF hMe175
        have hv175_1 := hcc175 1 _ rfl
        rw [add_field _ _ 1 (by omega)] at hv175_1
        replace hv175_1 := Option.some.inj (hv175_1.symm.trans hx175_1)
        injection hv175_1 with hva_ hvn_ hvc_
        rw [hva_] at ge175_1
        rw [hvc_] at ul175_1
        have HL175_1 := Aside0.mk (show Kd.V (Kd.slice 5 (Kd.int .u8)) 22 _ w.heap.size _ _ ((rd_T28 l0 x6_1).f1) from Kd.V_mk ul175_1 ge175_1)
        clear hva_ hvn_ hvc_ ge175_1 ul175_1
        have hv175_2 := hcc175 2 _ rfl
        rw [add_field _ _ 2 (by omega)] at hv175_2
        replace hv175_2 := Option.some.inj (hv175_2.symm.trans hx175_2)
        injection hv175_2 with hva_ hvn_ hvc_
        rw [hva_] at ge175_2
        rw [hvc_] at ul175_2
        have HL175_2 := Aside0.mk (show Kd.V (Kd.slice 5 (Kd.int .u8)) 22 _ w.heap.size _ _ ((rd_T28 l0 x6_1).f2) from Kd.V_mk ul175_2 ge175_2)
        clear hva_ hvn_ hvc_ ge175_2 ul175_2
        clear hcc175 hce175
        have HR175_1 := Aside0.mk hi175_1
        have HC175_1 := Aside0.mk hl175_1
        clear hi175_1 hl175_1
        have HR175_2 := Aside0.mk hi175_2
        have HC175_2 := Aside0.mk hl175_2
        clear hi175_2 hl175_2
        replace p175 := eq_true p175
        replace q175 := eq_true q175
        have ea_ := Option.some.inj (hx174_1.symm.trans hx175_1)
        injection ea_ with ea_ en_ ec_
        subst ea_
        subst ec_
        clear en_
        have ea_ := Option.some.inj (hx174_2.symm.trans hx175_2)
        injection ea_ with ea_ en_ ec_
        subst ea_
        subst ec_
        clear en_
        refine start_ (n := 16) (S := fun w' => w'.cell? (ad168.add ((x6_1).toNat * 3)) = some (.int .i64 ((rd_T28 l0 x6_1).f0)) ∧ w'.cell? ⟨(ad168.add ((x6_1).toNat * 3)).block, (ad168.add ((x6_1).toNat * 3)).off + 1, none⟩ = some (.slice A174_1 ((rd_T28 l0 x6_1).f1).length c174_1) ∧ w'.cell? ⟨(ad168.add ((x6_1).toNat * 3)).block, (ad168.add ((x6_1).toNat * 3)).off + 2, none⟩ = some (.slice A174_2 ((rd_T28 l0 x6_1).f2).length c174_2) ∧ w'.cell? (ad168.add ((x6_1).toNat * 3)) = some (.int .i64 ((rd_T28 l0 x6_1).f0)) ∧ w'.cell? ⟨(ad168.add ((x6_1).toNat * 3)).block, (ad168.add ((x6_1).toNat * 3)).off + 1, none⟩ = some (.slice A174_1 ((rd_T28 l0 x6_1).f1).length c174_1) ∧ w'.cell? ⟨(ad168.add ((x6_1).toNat * 3)).block, (ad168.add ((x6_1).toNat * 3)).off + 2, none⟩ = some (.slice A174_2 ((rd_T28 l0 x6_1).f2).length c174_2)) (ds := []) #[N,N,N,N,N,N,N,N,N,N,N,N,N,N,N,N] (by kernel_rfl) rfl rfl ⟨hx174_0, hx174_1, hx174_2, hx175_0, hx175_1, hx175_2⟩ (fun hHeld => ?_); refine with_tabW tattingref24_Invert.tab12 tattingref24_Invert.bits12 (fun HT_ HW_ => ?_)
        generalize w10.drew = w11 at HO_0 HL168_1 HL168_2 HL169_1 HL169_2 HL170_1 HL170_2 HO173 HB HL174_1 HL174_2 HL175_1 HL175_2 HR174_1 HR174_2 HR175_1 HR175_2 hx174_0 hx174_1 hx174_2 hx175_0 hx175_1 hx175_2 hHeld ⊢
        refine pure_ (i := 0) (N := some 41) (v := ?_) (a' := ?_) #[Y,N,N,N,N,N,N,N,N,N,N,N,N,N,N,N] rfl rfl (any_of HT_.out (by kernel_rfl)) (fun _ _ _ h => h) (Or.inl ⟨by rfl, ?_⟩) ?_ ?_; rotate_left
        ·intro w'; go_simp; with_reducible rfl
        rotate_left
        ·simp only [Act.put, sA,sB,sC, i64_w, i32_w]; rfl
        refine pure_ (i := 1) (N := some 42) (v := ?_) (a' := ?_) #[Y,Y,N,N,N,N,N,N,N,N,N,N,N,N,N,N] rfl rfl (any_of HT_.out (by kernel_rfl)) (fun _ _ _ h => h) (Or.inl ⟨by rfl, ?_⟩) ?_ ?_; rotate_left
        ·intro w'; go_simp; with_reducible rfl
        rotate_left
        ·simp only [Act.put, sA,sB,sC, i64_w, i32_w]; rfl
        refine pure_ (i := 2) (N := some 43) (v := ?_) (a' := ?_) #[Y,Y,Y,N,N,N,N,N,N,N,N,N,N,N,N,N] rfl rfl (any_of HT_.out (by kernel_rfl)) (fun _ _ _ h => h) (Or.inl ⟨by rfl, ?_⟩) ?_ ?_; rotate_left
        ·intro w'; go_simp; with_reducible rfl
        rotate_left
        ·simp only [Act.put, sA,sB,sC, i64_w, i32_w]; rfl
        refine pure_ (i := 3) (N := some 44) (v := ?_) (a' := ?_) #[Y,Y,Y,Y,N,N,N,N,N,N,N,N,N,N,N,N] rfl rfl (any_of HT_.out (by kernel_rfl)) (fun _ _ _ h => h) (Or.inl ⟨by rfl, ?_⟩) ?_ ?_; rotate_left
        ·intro w'; go_simp; with_reducible rfl
        rotate_left
        ·simp only [Act.put, sA,sB,sC, i64_w, i32_w]; rfl
        refine pure_ (i := 4) (N := some 45) (v := ?_) (a' := ?_) #[Y,Y,Y,Y,Y,N,N,N,N,N,N,N,N,N,N,N] rfl rfl (any_of HT_.out (by kernel_rfl)) (fun _ _ _ h => h) (Or.inl ⟨by rfl, ?_⟩) ?_ ?_; rotate_left
        ·intro w'; go_simp; with_reducible rfl
        rotate_left
        ·simp only [Act.put, sA,sB,sC, i64_w, i32_w]; rfl
        refine pure_ (i := 8) (N := some 49) (v := ?_) (a' := ?_) #[Y,Y,Y,Y,Y,N,N,N,Y,N,N,N,N,N,N,N] rfl rfl (any_of HT_.out (by kernel_rfl)) (fun _ _ _ h => h) (Or.inl ⟨by rfl, ?_⟩) ?_ ?_; rotate_left
        ·intro w'; go_simp; with_reducible rfl
        rotate_left
        ·simp only [Act.put, sA,sB,sC, i64_w, i32_w]; rfl
        refine pure_ (i := 9) (N := some 50) (v := ?_) (a' := ?_) #[Y,Y,Y,Y,Y,N,N,N,Y,Y,N,N,N,N,N,N] rfl rfl (any_of HT_.out (by kernel_rfl)) (fun _ _ _ h => h) (Or.inl ⟨by rfl, ?_⟩) ?_ ?_; rotate_left
        ·intro w'; go_simp; with_reducible rfl
        rotate_left
        ·simp only [Act.put, sA,sB,sC, i64_w, i32_w]; rfl
        refine pure_ (i := 10) (N := some 51) (v := ?_) (a' := ?_) #[Y,Y,Y,Y,Y,N,N,N,Y,Y,Y,N,N,N,N,N] rfl rfl (any_of HT_.out (by kernel_rfl)) (fun _ _ _ h => h) (Or.inl ⟨by rfl, ?_⟩) ?_ ?_; rotate_left
        ·intro w'; go_simp; with_reducible rfl
        rotate_left
        ·simp only [Act.put, sA,sB,sC, i64_w, i32_w]; rfl
        refine pure_ (i := 11) (N := some 52) (v := ?_) (a' := ?_) #[Y,Y,Y,Y,Y,N,N,N,Y,Y,Y,Y,N,N,N,N] rfl rfl (any_of HT_.out (by kernel_rfl)) (fun _ _ _ h => h) (Or.inl ⟨by rfl, ?_⟩) ?_ ?_; rotate_left
        ·intro w'; go_simp; with_reducible rfl
        rotate_left
        ·simp only [Act.put, sA,sB,sC, i64_w, i32_w]; rfl
        refine take_ (i := 5) (N := some 46) (v := ?_) (a' := ?_) #[Y,Y,Y,Y,Y,Y,N,N,Y,Y,Y,Y,N,N,N,N] rfl rfl (take_ofW HT_.out HW_.out (by kernel_rfl)) (fun _ _ _ h => h) (Or.inl ⟨by rfl, ?_⟩) hHeld ?_ ?_; rotate_left
        ·rintro w' ⟨s0, s1, s2, s3, s4, s5⟩; go_simp; with_reducible rfl
        rotate_left
        ·simp only [Act.put, sA,sB,sC, i64_w, i32_w]; rfl
        refine pure_ (i := 6) (N := some 47) (v := ?_) (a' := ?_) #[Y,Y,Y,Y,Y,Y,Y,N,Y,Y,Y,Y,N,N,N,N] rfl rfl (any_of HT_.out (by kernel_rfl)) (fun _ _ _ h => h) (Or.inl ⟨by rfl, ?_⟩) ?_ ?_; rotate_left
        ·intro w'; go_simp; with_reducible rfl
        rotate_left
        ·simp only [Act.put, sA,sB,sC, i64_w, i32_w]; rfl
        refine pure_ (i := 7) (N := some 48) (v := ?_) (a' := ?_) #[Y,Y,Y,Y,Y,Y,Y,Y,Y,Y,Y,Y,N,N,N,N] rfl rfl (any_of HT_.out (by kernel_rfl)) (fun _ _ _ h => h) (Or.inl ⟨by rfl, ?_⟩) ?_ ?_; rotate_left
        ·intro w'; go_simp; with_reducible rfl
        rotate_left
        ·simp only [Act.put, sA,sB,sC, i64_w, i32_w]; rfl
        refine take_ (i := 12) (N := some 53) (v := ?_) (a' := ?_) #[Y,Y,Y,Y,Y,Y,Y,Y,Y,Y,Y,Y,Y,N,N,N] rfl rfl (take_ofW HT_.out HW_.out (by kernel_rfl)) (fun _ _ _ h => h) (Or.inl ⟨by rfl, ?_⟩) hHeld ?_ ?_; rotate_left
        ·rintro w' ⟨s0, s1, s2, s3, s4, s5⟩; go_simp; with_reducible rfl
        rotate_left
        ·simp only [Act.put, sA,sB,sC, i64_w, i32_w]; rfl
        refine pure_ (i := 13) (N := some 54) (v := ?_) (a' := ?_) #[Y,Y,Y,Y,Y,Y,Y,Y,Y,Y,Y,Y,Y,Y,N,N] rfl rfl (any_of HT_.out (by kernel_rfl)) (fun _ _ _ h => h) (Or.inl ⟨by rfl, ?_⟩) ?_ ?_; rotate_left
        ·intro w'; go_simp; with_reducible rfl
        rotate_left
        ·simp only [Act.put, sA,sB,sC, i64_w, i32_w]; rfl
        refine pure_ (i := 14) (N := some 55) (v := ?_) (a' := ?_) #[Y,Y,Y,Y,Y,Y,Y,Y,Y,Y,Y,Y,Y,Y,Y,N] rfl rfl (any_of HT_.out (by kernel_rfl)) (fun _ _ _ h => h) (Or.inl ⟨by rfl, ?_⟩) ?_ ?_; rotate_left
        ·intro w'; go_simp; with_reducible rfl
        rotate_left
        ·simp only [Act.put, sA,sB,sC, i64_w, i32_w]; rfl
        refine pure_ (i := 15) (N := some 5) (v := ?_) (a' := ?_) #[Y,Y,Y,Y,Y,Y,Y,Y,Y,Y,Y,Y,Y,Y,Y,Y] rfl rfl (any_of HT_.out (by kernel_rfl)) (fun _ _ _ h => h) (Or.inl ⟨by rfl, ?_⟩) ?_ ?_; rotate_left
        ·intro w'; go_simp; with_reducible rfl
        rotate_left
        ·simp only [Act.put, sA,sB,sC, i64_w, i32_w]; rfl
        refine done_ (done_of HT_.out (by kernel_rfl)) ?_
        try go_wp2
        go_roundg k1
        case measure => have := HK1.out; omega
        case rel => exact ⟨(y171), (wrap64 ((wrap64 (x5_1 + (((rd_T28 l0 x6_1).f2).length : Int))) - (((rd_T28 l0 x6_1).f1).length : Int))), (wrap64 (x6_1 + 1)), (by first | rfl | (simp; done) | (simp [*]; done)), (by first | rfl | (simp; done) | (simp [*]; done)), H', ⟨by have := HK1.out; omega⟩, ⟨by (with_reducible repeat (first | apply Kd.V_alloc | apply Kd.V_drewN | apply Kd.V_drew)); exact HO_0.out⟩, ⟨by (with_reducible repeat (first | apply Kd.N_alloc | apply Kd.N_drewN | apply Kd.N_drew)); exact HO173.out⟩, ⟨by repeat (first | (with_reducible first | exact HB.out | apply below_alloc | apply pw_below_drewN | apply below_drew1) | exact HB.out)⟩⟩
       ·rw [if_neg c8] at H
        exact absurd H (by simp)
     ·rw [if_neg c6] at H
      exact absurd H (by simp)
    ·rw [if_neg c5] at H
     have c5b0 : decide (x6_1 < (l0.length : Int)) = false := decide_eq_false c5
     clear c5
     simp only [Option.some.injEq, Prod.mk.injEq] at H
     obtain ⟨rfl, rfl⟩ := H
     go_wp2
     go_ret2
     exact ⟨_, by first | rfl | (simp [errW_none, errW_some] <;> rfl) | (simp [*, errW_none, errW_some] <;> rfl), by (with_reducible repeat (first | apply Kd.N_alloc | apply Kd.N_drewN | apply Kd.N_drew)); exact HO_4.out, by repeat (first | (with_reducible first | exact HB.out | apply below_alloc | apply pw_below_drewN | apply below_drew1) | exact HB.out)⟩
 ·replace c3 := Bool.eq_false_iff.mpr c3
  subst c3
  have H1 : (some (([] : List (S28)), 1)) = some (r1, r2) := by rw [if_neg (show ¬ (false = true) by decide)] at H; exact H
  clear H
  have H := H1
  clear H1
  simp only [Option.some.injEq, Prod.mk.injEq] at H
  obtain ⟨rfl, rfl⟩ := H
  go_enter Try.func16, Try.ntmps16
  go_wp2_with (first | ((first | (with_reducible refine gate_callee (f := 26) rfl ?_); refine goesL_ (some 9) rfl rfl Try.func26 (by kernel_rfl) rfl #[.slice A0 l0.length c0] rfl (by (try simp only [List.map_toArray, List.map_cons, List.map_nil]); first | done | rfl | (simp only [List.length_drop, List.length_take]; rfl)) ?_ | go_at_call 26); (with_reducible refine (tattingref24_Good.calls k _ _ l0 false _ ?side1 ?side2 A2.out).mono ?_); (case side1 => repeat (first | exact (Kd.V_reads' HO0.out).2.2 | (with_reducible refine Kd.C_alloc ?_ _) | (with_reducible refine Kd.C_drewN ?_ _) | (with_reducible refine Kd.C_drew ?_))); (case side2 => exact (Kd.V_reads' HO0.out).2.1); rintro e w12 ⟨rfl, hb⟩; (try refine ⟨_, rfl, ?_⟩); have n0_ := Aside0.mk (Kd.V_below (by (with_reducible repeat (first | apply Kd.V_alloc | apply Kd.V_drewN | apply Kd.V_drew)); exact HO0.out) hb); have n1_ := Aside0.mk (below_step (by repeat (first | (with_reducible first | exact HB.out | apply below_alloc | apply pw_below_drewN | apply below_drew1) | exact HB.out)) hb); clear HO0; clear HB; have HO0 := n0_; have HB := n1_; clear n0_ n1_; (try clear hb); (try clear hb2); (try clear hk); (try clear hi)))
  go_ret2
  exact ⟨_, by first | rfl | (simp [errW_none, errW_some] <;> rfl) | (simp [*, errW_none, errW_some] <;> rfl), by first | exact Kd.R_nil _ _ _ _ _ | exact Kd.N_nil _ _ _ _ _ | exact Kd.V_nil _ _ _ _ _ | exact Kd.Q_nil _ _ _ _ _ | exact Kd.S_nil _ _ _ _ _, by repeat (first | (with_reducible first | exact HB.out | apply below_alloc | apply pw_below_drewN | apply below_drew1) | exact HB.out)⟩

/-! ### tattingref1_SameTokens: function 15 -/
def tattingref1_SameTokens.l0 : Nat → List (List Int) → List (List Int) → Int → Option (Bool)
 | 0, _, _, _ => none
 | k + 1, x0, x1, x5 => if x5 < (x0.length : Int) then (if 0 ≤ x5 then (if x5 < (x1.length : Int) then (if (strOfNums (rd_L1 x0 x5)).toList = (strOfNums (rd_L1 x1 x5)).toList then (tattingref1_SameTokens.l0 k x0 x1 (wrap64 (x5 + 1))) else (some false)) else (none)) else (none)) else (some true)
def tattingref1_SameTokens.f (k : Nat) (l0 : List (List Int)) (l1 : List (List Int)) : Option (Bool) := if (l0.length : Int) = (l1.length : Int) then (tattingref1_SameTokens.l0 k l0 l1 0) else (some false)
theorem tattingref1_SameTokens.mono_l : ∀ k, (∀ y0 y1 y2, LeO (tattingref1_SameTokens.l0 k y0 y1 y2) (tattingref1_SameTokens.l0 (k + 1) y0 y1 y2))
 | 0 => fun _ _ _ r h => by simp [tattingref1_SameTokens.l0] at h
 | k + 1 => by
  have ih0 := tattingref1_SameTokens.mono_l k
  ·intro y0 y1 y2
   unfold tattingref1_SameTokens.l0
   repeat' first
   | (with_reducible exact ih0 _ _ _)
   | (with_reducible exact LeO.refl _)
   | (with_reducible exact LeO.none _)
   | (with_reducible refine LeO.ite ?_ ?_)
   | (with_reducible refine LeO.bind ?_ (fun _ => ?_))
   | exact ih0 _ _ _
   | exact LeO.none _
   | refine LeO.ite ?_ ?_
   | refine LeO.bind ?_ (fun _ => ?_)
theorem tattingref1_SameTokens.mono : ∀ a0 a1 k, LeO (tattingref1_SameTokens.f k a0 a1) (tattingref1_SameTokens.f (k + 1) a0 a1) := by
 intro a0 a1 k
 have ih0 := tattingref1_SameTokens.mono_l k
 unfold tattingref1_SameTokens.f
 repeat' first
   | (with_reducible exact ih0 _ _ _)
   | (with_reducible exact LeO.refl _)
   | (with_reducible exact LeO.none _)
   | (with_reducible refine LeO.ite ?_ ?_)
   | (with_reducible refine LeO.bind ?_ (fun _ => ?_))
   | exact ih0 _ _ _
   | exact LeO.none _
   | refine LeO.ite ?_ ?_
   | refine LeO.bind ?_ (fun _ => ?_)
set_option maxHeartbeats 8000000 in
set_option maxRecDepth 100000 in
theorem tattingref1_SameTokens.calls (k : Nat) (A0 : Option Addr) (c0 : Nat) (l0 : List (List Int)) (A1 : Option Addr) (c1 : Nat) (l1 : List (List Int)) (r : Bool) (w : World) (hr0 : Kd.C (Kd.slice 5 (Kd.int .u8)) w A0 l0.length l0) (hc0 : l0.length ≤ c0) (hr1 : Kd.C (Kd.slice 5 (Kd.int .u8)) w A1 l1.length l1) (hc1 : l1.length ≤ c1) (h : tattingref1_SameTokens.f k l0 l1 = some r) :
  Calls Try.prog 15 #[.slice A0 l0.length c0, .slice A1 l1.length c1] w fun e w' => e = .returned (.bool r) ∧ Drawn0 w w' := by
 have HR0 := Aside0.mk hr0
 have HC0 := Aside0.mk hc0
 clear hr0 hc0
 have HR1 := Aside0.mk hr1
 have HC1 := Aside0.mk hc1
 clear hr1 hc1
 have H : (if (l0.length : Int) = (l1.length : Int) then (tattingref1_SameTokens.l0 k l0 l1 0) else (some false)) = some r := h
 clear h
 by_cases c3 : (l0.length : Int) = (l1.length : Int)
 ·rw [if_pos c3] at H
  have c3b0 : ((l0.length : Int) == (l1.length : Int)) = true := beq_iff_eq.mpr c3
  have c3b1 : ((l0.length : Int) != (l1.length : Int)) = false := bne_eq_false_iff_eq.mpr c3
  have c3b2 : (l0.length == l1.length) = true := by first | simpa using c3 | (simp at c3 ⊢; omega)
  clear c3
  have H' := Aside0.mk H
  clear H
  go_enter Try.func15, Try.ntmps15
  go_wp2
  repeat (go_quiet (fail); try go_wp2)
  go_loopg [5] k (fun kq v5 w' => ∃ (x5_1 : Int), v5 = .int .i64 x5_1 ∧ Aside0 (tattingref1_SameTokens.l0 kq l0 l1 x5_1 = some r) ∧ Aside0 (kq ≤ k) ∧ Drawn0 w w')
  case atStart => exact ⟨(0), (by first | rfl | (simp; done) | (simp [*]; done)), H', ⟨Nat.le_refl _⟩, by repeat (first | exact Drawn0.refl _ | apply Drawn0.step)⟩
  case round =>
   clear H'
   try clear c1
   try clear p2
   try clear c3
   try clear c3b0
   try clear c3b1
   try clear c3b2
   obtain ⟨x5_1, rfl, HA, HK1, ⟨m1, rfl⟩⟩ := hrel
   cases gk with
   | zero => exact absurd HA.out (by simp [tattingref1_SameTokens.l0])
   | succ k1 =>
    have H := HA.out
    clear HA
    simp only [tattingref1_SameTokens.l0] at H
    by_cases c4 : x5_1 < (l0.length : Int)
    ·rw [if_pos c4] at H
     have c4b0 : decide (x5_1 < (l0.length : Int)) = true := decide_eq_true c4
     clear c4
     by_cases c5 : 0 ≤ x5_1
     ·rw [if_pos c5] at H
      have c5b0 : decide (0 ≤ x5_1) = true := decide_eq_true c5
      clear c5
      by_cases c6 : x5_1 < (l1.length : Int)
      ·rw [if_pos c6] at H
       have c6b0 : decide (x5_1 < (l1.length : Int)) = true := decide_eq_true c6
       clear c6
       by_cases c7 : (strOfNums (rd_L1 l0 x5_1)).toList = (strOfNums (rd_L1 l1 x5_1)).toList
       ·rw [if_pos c7] at H
        have c7b0 : ((strOfNums (rd_L1 l0 x5_1)).toList == (strOfNums (rd_L1 l1 x5_1)).toList) = true := beq_iff_eq.mpr c7
        have c7b1 : ((strOfNums (rd_L1 l0 x5_1)).toList != (strOfNums (rd_L1 l1 x5_1)).toList) = false := bne_eq_false_iff_eq.mpr c7
        clear c7
        have H' := Aside0.mk H
        clear H
        have p176 : 0 ≤ (x5_1 : Int) := of_decide_eq_true (by first | (with_reducible assumption) | assumption)
        have q176 : x5_1 < (l0.length : Int) := of_decide_eq_true (by first | (with_reducible assumption) | assumption)
        obtain ⟨ad176, A176_0, c176_0, e176, hx176_0, hl176_0, hi176_0⟩ := at_L1 HR0.out x5_1 p176 q176
        cases e176
        have HR176_0 := Aside0.mk hi176_0
        have HC176_0 := Aside0.mk hl176_0
        clear hi176_0 hl176_0
        replace p176 := eq_true p176
        replace q176 := eq_true q176
        have hcv8 := Kd.C_string (P := Try.prog) (A := A176_0) (c := c176_0) Try.underlying22 Try.underlying5 Try.underlying9 HR176_0.out
        have hcvd9 := fun nd_ => Kd.C_string (P := Try.prog) (A := A176_0) (c := c176_0) Try.underlying22 Try.underlying5 Try.underlying9 (Kd.C_drewN HR176_0.out nd_)
        have p177 : 0 ≤ (x5_1 : Int) := of_decide_eq_true (by first | (with_reducible assumption) | assumption)
        have q177 : x5_1 < (l1.length : Int) := of_decide_eq_true (by first | (with_reducible assumption) | assumption)
        obtain ⟨ad177, A177_0, c177_0, e177, hx177_0, hl177_0, hi177_0⟩ := at_L1 HR1.out x5_1 p177 q177
        cases e177
        have HR177_0 := Aside0.mk hi177_0
        have HC177_0 := Aside0.mk hl177_0
        clear hi177_0 hl177_0
        replace p177 := eq_true p177
        replace q177 := eq_true q177
        have hcv10 := Kd.C_string (P := Try.prog) (A := A177_0) (c := c177_0) Try.underlying22 Try.underlying5 Try.underlying9 HR177_0.out
        have hcvd11 := fun nd_ => Kd.C_string (P := Try.prog) (A := A177_0) (c := c177_0) Try.underlying22 Try.underlying5 Try.underlying9 (Kd.C_drewN HR177_0.out nd_)
        go_wp2
        repeat (go_quiet (fail); try go_wp2)
        go_roundg k1
        case measure => have := HK1.out; omega
        case rel => exact ⟨(wrap64 (x5_1 + 1)), (by first | rfl | (simp; done) | (simp [*]; done)), H', ⟨by have := HK1.out; omega⟩, by repeat (first | exact Drawn0.refl _ | apply Drawn0.step)⟩
       ·rw [if_neg c7] at H
        have c7b0 : ((strOfNums (rd_L1 l0 x5_1)).toList == (strOfNums (rd_L1 l1 x5_1)).toList) = false := beq_eq_false_iff_ne.mpr c7
        have c7b1 : ((strOfNums (rd_L1 l0 x5_1)).toList != (strOfNums (rd_L1 l1 x5_1)).toList) = true := bne_iff_ne.mpr c7
        obtain rfl := Option.some.inj H
        have p176 : 0 ≤ (x5_1 : Int) := of_decide_eq_true (by first | (with_reducible assumption) | assumption)
        have q176 : x5_1 < (l0.length : Int) := of_decide_eq_true (by first | (with_reducible assumption) | assumption)
        obtain ⟨ad176, A176_0, c176_0, e176, hx176_0, hl176_0, hi176_0⟩ := at_L1 HR0.out x5_1 p176 q176
        cases e176
        have HR176_0 := Aside0.mk hi176_0
        have HC176_0 := Aside0.mk hl176_0
        clear hi176_0 hl176_0
        replace p176 := eq_true p176
        replace q176 := eq_true q176
        have hcv12 := Kd.C_string (P := Try.prog) (A := A176_0) (c := c176_0) Try.underlying22 Try.underlying5 Try.underlying9 HR176_0.out
        have hcvd13 := fun nd_ => Kd.C_string (P := Try.prog) (A := A176_0) (c := c176_0) Try.underlying22 Try.underlying5 Try.underlying9 (Kd.C_drewN HR176_0.out nd_)
        have p177 : 0 ≤ (x5_1 : Int) := of_decide_eq_true (by first | (with_reducible assumption) | assumption)
        have q177 : x5_1 < (l1.length : Int) := of_decide_eq_true (by first | (with_reducible assumption) | assumption)
        obtain ⟨ad177, A177_0, c177_0, e177, hx177_0, hl177_0, hi177_0⟩ := at_L1 HR1.out x5_1 p177 q177
        cases e177
        have HR177_0 := Aside0.mk hi177_0
        have HC177_0 := Aside0.mk hl177_0
        clear hi177_0 hl177_0
        replace p177 := eq_true p177
        replace q177 := eq_true q177
        have hcv14 := Kd.C_string (P := Try.prog) (A := A177_0) (c := c177_0) Try.underlying22 Try.underlying5 Try.underlying9 HR177_0.out
        have hcvd15 := fun nd_ => Kd.C_string (P := Try.prog) (A := A177_0) (c := c177_0) Try.underlying22 Try.underlying5 Try.underlying9 (Kd.C_drewN HR177_0.out nd_)
        go_wp2
        repeat (go_quiet (fail); try go_wp2)
        go_ret
        exact ⟨by first | rfl | (simp; done) | (simp [*]; done), by repeat (first | exact Drawn0.refl _ | apply Drawn0.step)⟩
      ·rw [if_neg c6] at H
       exact absurd H (by simp)
     ·rw [if_neg c5] at H
      exact absurd H (by simp)
    ·rw [if_neg c4] at H
     have c4b0 : decide (x5_1 < (l0.length : Int)) = false := decide_eq_false c4
     clear c4
     obtain rfl := Option.some.inj H
     go_wp2
     repeat (go_quiet (fail); try go_wp2)
     go_ret
     exact ⟨by first | rfl | (simp; done) | (simp [*]; done), by repeat (first | exact Drawn0.refl _ | apply Drawn0.step)⟩
 ·rw [if_neg c3] at H
  have c3b0 : ((l0.length : Int) == (l1.length : Int)) = false := beq_eq_false_iff_ne.mpr c3
  have c3b1 : ((l0.length : Int) != (l1.length : Int)) = true := bne_iff_ne.mpr c3
  have c3b2 : (l0.length == l1.length) = false := by first | simpa using c3 | (simp at c3 ⊢; omega)
  obtain rfl := Option.some.inj H
  go_enter Try.func15, Try.ntmps15
  go_wp2
  repeat (go_quiet (fail); try go_wp2)
  go_ret
  exact ⟨by first | rfl | (simp; done) | (simp [*]; done), by repeat (first | exact Drawn0.refl _ | apply Drawn0.step)⟩

end Go.Proofs.Ytlodaoijokfblaa.PPatchInverts
