/- What the given program's functions come to, each a Lean function and the walk that shows it: no condition beside those that each theorem names. -/
import Derived.Test.YtlodaoijokfblaaPPatchMadex0
import Derived.Test.YtlodaoijokfblaaPPatchMadex1
import Derived.Test.YtlodaoijokfblaaPPatchMadex2
import Derived.Test.YtlodaoijokfblaaPPatchMadex3
import Derived.Test.YtlodaoijokfblaaPPatchMadex5
import Derived.Test.YtlodaoijokfblaaPPatchMadex7
namespace Go.Proofs.Ytlodaoijokfblaa.PPatchMade
open Go.RowKit Go.Proofs.YtlodaoijokfblaaW.PrintWords Go.Proofs.YtlodaoijokfblaaW.PrintLast Go.Proofs.YtlodaoijokfblaaW.PrintMore
attribute [local go_sem] max2_int min2_int max_two min_two max_three min_three max_four min_four   -- for this text's walks alone
set_option linter.unusedVariables false
set_option linter.unusedSimpArgs false

/-! ### tattinglaw25_PatchMade: function 7 -/
mutual
def tattinglaw25_PatchMade.j0 : Nat → List (List Int) → List (List Int) → Bool → Option (Bool)
 | 0, _, _, _ => none
 | k + 1, x0, x1, x27 => if x27 = true then (some true) else (tattinglaw25_PatchMade.l0 k x0 x1 0)
def tattinglaw25_PatchMade.l0 : Nat → List (List Int) → List (List Int) → Int → Option (Bool)
 | 0, _, _, _ => none
 | k + 1, x0, x1, x5 => if x5 < (x0.length : Int) then (if 0 ≤ x5 then (if ((rd_L1 x0 x5).length : Int) = 0 then (some true) else (tattinglaw25_PatchMade.l0 k x0 x1 (wrap64 (x5 + 1)))) else (none)) else (tattinglaw25_PatchMade.l1 k x0 x1 0)
def tattinglaw25_PatchMade.l1 : Nat → List (List Int) → List (List Int) → Int → Option (Bool)
 | 0, _, _, _ => none
 | k + 1, x0, x1, x6 => if x6 < (x1.length : Int) then (if 0 ≤ x6 then (if ((rd_L1 x1 x6).length : Int) = 0 then (some true) else (tattinglaw25_PatchMade.l1 k x0 x1 (wrap64 (x6 + 1)))) else (none)) else ((tattingref1_Two.f k x0 x1).bind fun bt359 => ((tattingref7_Least.f k bt359.1 bt359.2.1).bind fun t366 => ((tattingref24_Make.f k x0 x1 t366).bind fun bt369 => ((patch_Apply.f k bt369.1 x0).bind fun bt373 => ((patch_Invert.f k bt369.1).bind fun bt377 => ((patch_Apply.f k bt377.1 x1).bind fun bt381 => (if bt373.2 = 0 then (if bt377.2 = 0 then (if bt381.2 = 0 then ((tattingref1_SameTokens.f k bt373.1 x1).bind fun t385 => (if t385 = true then ((tattingref1_SameTokens.f k bt381.1 x0).bind fun t386 => (some t386)) else (some false))) else (some false)) else (some false)) else (some false))))))))
end
def tattinglaw25_PatchMade.f (k : Nat) (l0 : List (List Int)) (l1 : List (List Int)) : Option (Bool) := (tattinglaw25_awake.f k).bind fun t354 => (if t354 = true then ((tattinglaw25_few.f k l0).bind fun t355 => (if t355 = true then ((tattinglaw25_few.f k l1).bind fun t356 => (tattinglaw25_PatchMade.j0 k l0 l1 (!t356))) else (tattinglaw25_PatchMade.j0 k l0 l1 true))) else (some false))
theorem tattinglaw25_PatchMade.mono_l : ∀ k, (∀ y0 y1 y2, LeO (tattinglaw25_PatchMade.j0 k y0 y1 y2) (tattinglaw25_PatchMade.j0 (k + 1) y0 y1 y2)) ∧ (∀ y0 y1 y2, LeO (tattinglaw25_PatchMade.l0 k y0 y1 y2) (tattinglaw25_PatchMade.l0 (k + 1) y0 y1 y2)) ∧ (∀ y0 y1 y2, LeO (tattinglaw25_PatchMade.l1 k y0 y1 y2) (tattinglaw25_PatchMade.l1 (k + 1) y0 y1 y2))
 | 0 => ⟨fun _ _ _ r h => by simp [tattinglaw25_PatchMade.j0] at h, fun _ _ _ r h => by simp [tattinglaw25_PatchMade.l0] at h, fun _ _ _ r h => by simp [tattinglaw25_PatchMade.l1] at h⟩
 | k + 1 => by
  obtain ⟨ih0, ih1, ih2⟩ := tattinglaw25_PatchMade.mono_l k
  refine ⟨?_, ?_, ?_⟩
  ·intro y0 y1 y2
   unfold tattinglaw25_PatchMade.j0
   repeat' first
   | (with_reducible exact ih0 _ _ _)
   | (with_reducible exact ih1 _ _ _)
   | (with_reducible exact ih2 _ _ _)
   | (with_reducible exact patch_Apply.mono _ _ _)
   | (with_reducible exact patch_Invert.mono _ _)
   | (with_reducible exact tattinglaw25_awake.mono _)
   | (with_reducible exact tattinglaw25_few.mono _ _)
   | (with_reducible exact tattingref1_SameTokens.mono _ _ _)
   | (with_reducible exact tattingref1_Two.mono _ _ _)
   | (with_reducible exact tattingref24_Make.mono _ _ _ _)
   | (with_reducible exact tattingref7_Least.mono _ _ _)
   | (with_reducible exact LeO.refl _)
   | (with_reducible exact LeO.none _)
   | (with_reducible refine LeO.ite ?_ ?_)
   | (with_reducible refine LeO.bind ?_ (fun _ => ?_))
   | exact ih0 _ _ _
   | exact ih1 _ _ _
   | exact ih2 _ _ _
   | exact patch_Apply.mono _ _ _
   | exact patch_Invert.mono _ _
   | exact tattinglaw25_awake.mono _
   | exact tattinglaw25_few.mono _ _
   | exact tattingref1_SameTokens.mono _ _ _
   | exact tattingref1_Two.mono _ _ _
   | exact tattingref24_Make.mono _ _ _ _
   | exact tattingref7_Least.mono _ _ _
   | exact LeO.none _
   | refine LeO.ite ?_ ?_
   | refine LeO.bind ?_ (fun _ => ?_)
  ·intro y0 y1 y2
   unfold tattinglaw25_PatchMade.l0
   repeat' first
   | (with_reducible exact ih0 _ _ _)
   | (with_reducible exact ih1 _ _ _)
   | (with_reducible exact ih2 _ _ _)
   | (with_reducible exact patch_Apply.mono _ _ _)
   | (with_reducible exact patch_Invert.mono _ _)
   | (with_reducible exact tattinglaw25_awake.mono _)
   | (with_reducible exact tattinglaw25_few.mono _ _)
   | (with_reducible exact tattingref1_SameTokens.mono _ _ _)
   | (with_reducible exact tattingref1_Two.mono _ _ _)
   | (with_reducible exact tattingref24_Make.mono _ _ _ _)
   | (with_reducible exact tattingref7_Least.mono _ _ _)
   | (with_reducible exact LeO.refl _)
   | (with_reducible exact LeO.none _)
   | (with_reducible refine LeO.ite ?_ ?_)
   | (with_reducible refine LeO.bind ?_ (fun _ => ?_))
   | exact ih0 _ _ _
   | exact ih1 _ _ _
   | exact ih2 _ _ _
   | exact patch_Apply.mono _ _ _
   | exact patch_Invert.mono _ _
   | exact tattinglaw25_awake.mono _
   | exact tattinglaw25_few.mono _ _
   | exact tattingref1_SameTokens.mono _ _ _
   | exact tattingref1_Two.mono _ _ _
   | exact tattingref24_Make.mono _ _ _ _
   | exact tattingref7_Least.mono _ _ _
   | exact LeO.none _
   | refine LeO.ite ?_ ?_
   | refine LeO.bind ?_ (fun _ => ?_)
  ·intro y0 y1 y2
   unfold tattinglaw25_PatchMade.l1
   repeat' first
   | (with_reducible exact ih0 _ _ _)
   | (with_reducible exact ih1 _ _ _)
   | (with_reducible exact ih2 _ _ _)
   | (with_reducible exact patch_Apply.mono _ _ _)
   | (with_reducible exact patch_Invert.mono _ _)
   | (with_reducible exact tattinglaw25_awake.mono _)
   | (with_reducible exact tattinglaw25_few.mono _ _)
   | (with_reducible exact tattingref1_SameTokens.mono _ _ _)
   | (with_reducible exact tattingref1_Two.mono _ _ _)
   | (with_reducible exact tattingref24_Make.mono _ _ _ _)
   | (with_reducible exact tattingref7_Least.mono _ _ _)
   | (with_reducible exact LeO.refl _)
   | (with_reducible exact LeO.none _)
   | (with_reducible refine LeO.ite ?_ ?_)
   | (with_reducible refine LeO.bind ?_ (fun _ => ?_))
   | exact ih0 _ _ _
   | exact ih1 _ _ _
   | exact ih2 _ _ _
   | exact patch_Apply.mono _ _ _
   | exact patch_Invert.mono _ _
   | exact tattinglaw25_awake.mono _
   | exact tattinglaw25_few.mono _ _
   | exact tattingref1_SameTokens.mono _ _ _
   | exact tattingref1_Two.mono _ _ _
   | exact tattingref24_Make.mono _ _ _ _
   | exact tattingref7_Least.mono _ _ _
   | exact LeO.none _
   | refine LeO.ite ?_ ?_
   | refine LeO.bind ?_ (fun _ => ?_)
theorem tattinglaw25_PatchMade.mono : ∀ a0 a1 k, LeO (tattinglaw25_PatchMade.f k a0 a1) (tattinglaw25_PatchMade.f (k + 1) a0 a1) := by
 intro a0 a1 k
 obtain ⟨ih0, ih1, ih2⟩ := tattinglaw25_PatchMade.mono_l k
 unfold tattinglaw25_PatchMade.f
 repeat' first
   | (with_reducible exact ih0 _ _ _)
   | (with_reducible exact ih1 _ _ _)
   | (with_reducible exact ih2 _ _ _)
   | (with_reducible exact patch_Apply.mono _ _ _)
   | (with_reducible exact patch_Invert.mono _ _)
   | (with_reducible exact tattinglaw25_awake.mono _)
   | (with_reducible exact tattinglaw25_few.mono _ _)
   | (with_reducible exact tattingref1_SameTokens.mono _ _ _)
   | (with_reducible exact tattingref1_Two.mono _ _ _)
   | (with_reducible exact tattingref24_Make.mono _ _ _ _)
   | (with_reducible exact tattingref7_Least.mono _ _ _)
   | (with_reducible exact LeO.refl _)
   | (with_reducible exact LeO.none _)
   | (with_reducible refine LeO.ite ?_ ?_)
   | (with_reducible refine LeO.bind ?_ (fun _ => ?_))
   | exact ih0 _ _ _
   | exact ih1 _ _ _
   | exact ih2 _ _ _
   | exact patch_Apply.mono _ _ _
   | exact patch_Invert.mono _ _
   | exact tattinglaw25_awake.mono _
   | exact tattinglaw25_few.mono _ _
   | exact tattingref1_SameTokens.mono _ _ _
   | exact tattingref1_Two.mono _ _ _
   | exact tattingref24_Make.mono _ _ _ _
   | exact tattingref7_Least.mono _ _ _
   | exact LeO.none _
   | refine LeO.ite ?_ ?_
   | refine LeO.bind ?_ (fun _ => ?_)
set_option maxHeartbeats 8000000 in
set_option maxRecDepth 100000 in
theorem tattinglaw25_PatchMade.calls (k : Nat) (A0 : Option Addr) (c0 : Nat) (l0 : List (List Int)) (A1 : Option Addr) (c1 : Nat) (l1 : List (List Int)) (r : Bool) (w : World) (hr0 : Kd.C (Kd.slice 5 (Kd.int .u8)) w A0 l0.length l0) (hc0 : l0.length ≤ c0) (hr1 : Kd.C (Kd.slice 5 (Kd.int .u8)) w A1 l1.length l1) (hc1 : l1.length ≤ c1) (h : tattinglaw25_PatchMade.f k l0 l1 = some r) (hr_ : r = true) :
  Calls Try.prog 7 #[.slice A0 l0.length c0, .slice A1 l1.length c1] w fun e w' => e = .returned (.bool r) ∧ Below w.heap.size w w' := by
 have HR0 := Aside0.mk hr0
 have HC0 := Aside0.mk hc0
 clear hr0 hc0
 have HR1 := Aside0.mk hr1
 have HC1 := Aside0.mk hc1
 clear hr1 hc1
 have HB := Aside0.mk (Below.refl w.heap.size w)
 have H : ((tattinglaw25_awake.f k).bind fun t354 => (if t354 = true then ((tattinglaw25_few.f k l0).bind fun t355 => (if t355 = true then ((tattinglaw25_few.f k l1).bind fun t356 => (tattinglaw25_PatchMade.j0 k l0 l1 (!t356))) else (tattinglaw25_PatchMade.j0 k l0 l1 true))) else (some false))) = some r := h
 clear h
 replace H := Option.bind_eq_some_iff.mp H
 obtain ⟨t354, A30, H⟩ := H
 replace H : (if t354 = true then ((tattinglaw25_few.f k l0).bind fun t355 => (if t355 = true then ((tattinglaw25_few.f k l1).bind fun t356 => (tattinglaw25_PatchMade.j0 k l0 l1 (!t356))) else (tattinglaw25_PatchMade.j0 k l0 l1 true))) else (some false)) = some r := H
 have A3 := Aside0.mk A30
 clear A30
 by_cases c4 : t354 = true
 ·subst c4
  have H1 : ((tattinglaw25_few.f k l0).bind fun t355 => (if t355 = true then ((tattinglaw25_few.f k l1).bind fun t356 => (tattinglaw25_PatchMade.j0 k l0 l1 (!t356))) else (tattinglaw25_PatchMade.j0 k l0 l1 true))) = some r := by rw [if_pos rfl] at H; exact H
  clear H
  have H := H1
  clear H1
  have HC5 := Aside0.mk H
  clear H
  go_enter Try.func7, Try.ntmps7
  try dsimp only [List.append]
  go_upto_region 3 with (first | ((first | (with_reducible refine gate_callee (f := 11) rfl ?_); refine goesL_ (some 18) rfl rfl Try.func11 (by kernel_rfl) rfl #[] rfl (by (try simp only [List.map_toArray, List.map_cons, List.map_nil]); first | done | rfl | (simp only [List.length_drop, List.length_take]; rfl)) ?_ | go_at_call 11); (with_reducible refine (tattinglaw25_awake.calls k  true _ A3.out rfl).mono ?_); rintro e w6 ⟨rfl, hb⟩; (try refine ⟨_, rfl, ?_⟩); have n0_ := Aside0.mk (below_step (by repeat (first | (with_reducible first | exact HB.out | apply below_alloc | apply pw_below_drewN | apply below_drew1) | exact HB.out)) hb); clear HB; have HB := n0_; clear n0_; (try clear hb); (try clear hb2); (try clear hk); (try clear hi)))
  (try simp only [Act.put, sA,sB,sC])
  go_cut [27] (fun v27 wc => ∃ (kq : Nat) (x27_4 : Bool), v27 = .bool x27_4 ∧ Aside0 (tattinglaw25_PatchMade.j0 kq l0 l1 x27_4 = some r) ∧ Aside0 (kq ≤ k) ∧ Aside0 (Below w.heap.size w wc))
  case first =>
   have H := HC5.out
   clear HC5
   replace H := Option.bind_eq_some_iff.mp H
   obtain ⟨t355, A70, H⟩ := H
   replace H : (if t355 = true then ((tattinglaw25_few.f k l1).bind fun t356 => (tattinglaw25_PatchMade.j0 k l0 l1 (!t356))) else (tattinglaw25_PatchMade.j0 k l0 l1 true)) = some r := H
   have A7 := Aside0.mk A70
   clear A70
   by_cases c8 : t355 = true
   ·subst c8
    have H1 : ((tattinglaw25_few.f k l1).bind fun t356 => (tattinglaw25_PatchMade.j0 k l0 l1 (!t356))) = some r := by rw [if_pos rfl] at H; exact H
    clear H
    have H := H1
    clear H1
    replace H := Option.bind_eq_some_iff.mp H
    obtain ⟨t356, A90, H⟩ := H
    replace H : (tattinglaw25_PatchMade.j0 k l0 l1 (!t356)) = some r := H
    have A9 := Aside0.mk A90
    clear A90
    have H' := Aside0.mk H
    clear H
    go_wp2_with (first | ((first | (with_reducible refine gate_callee (f := 13) rfl ?_); refine goesL_ (some 21) rfl rfl Try.func13 (by kernel_rfl) rfl #[.slice A0 l0.length c0] rfl (by (try simp only [List.map_toArray, List.map_cons, List.map_nil]); first | done | rfl | (simp only [List.length_drop, List.length_take]; rfl)) ?_ | go_at_call 13); (with_reducible refine (tattinglaw25_few.calls k _ _ l0 true _ ?side1 ?side2 A7.out).mono ?_); (case side1 => repeat (first | exact (Kd.C_below HR0.out HB.out) | (with_reducible refine Kd.C_alloc ?_ _) | (with_reducible refine Kd.C_drewN ?_ _) | (with_reducible refine Kd.C_drew ?_))); (case side2 => exact HC0.out); rintro e w' ⟨rfl, ⟨nd, rfl⟩⟩; (try refine ⟨_, rfl, ?_⟩)) | (go_at_call 13; (with_reducible refine (tattinglaw25_few.calls k _ _ l1 t356 _ ?side1 ?side2 A9.out).mono ?_); (case side1 => repeat (first | exact (Kd.C_below HR1.out (by repeat (first | (with_reducible first | exact HB.out | apply below_alloc | apply pw_below_drewN | apply below_drew1) | exact HB.out))) | (with_reducible refine Kd.C_alloc ?_ _) | (with_reducible refine Kd.C_drewN ?_ _) | (with_reducible refine Kd.C_drew ?_))); (case side2 => exact HC1.out); rintro e w' ⟨rfl, ⟨nd, rfl⟩⟩))
    go_meet
    case rel => exact ⟨_, (!t356), (by first | rfl | (simp; done) | (simp [*]; done)), H', ⟨by first | omega | exact Nat.le_refl _⟩, ⟨by repeat (first | (with_reducible first | exact HB.out | apply below_alloc | apply pw_below_drewN | apply below_drew1) | exact HB.out)⟩⟩
   ·replace c8 := Bool.eq_false_iff.mpr c8
    subst c8
    have H1 : (tattinglaw25_PatchMade.j0 k l0 l1 true) = some r := by rw [if_neg (show ¬ (false = true) by decide)] at H; exact H
    clear H
    have H := H1
    clear H1
    have H' := Aside0.mk H
    clear H
    go_wp2_with (first | ((first | (with_reducible refine gate_callee (f := 13) rfl ?_); refine goesL_ (some 21) rfl rfl Try.func13 (by kernel_rfl) rfl #[.slice A0 l0.length c0] rfl (by (try simp only [List.map_toArray, List.map_cons, List.map_nil]); first | done | rfl | (simp only [List.length_drop, List.length_take]; rfl)) ?_ | go_at_call 13); (with_reducible refine (tattinglaw25_few.calls k _ _ l0 false _ ?side1 ?side2 A7.out).mono ?_); (case side1 => repeat (first | exact (Kd.C_below HR0.out HB.out) | (with_reducible refine Kd.C_alloc ?_ _) | (with_reducible refine Kd.C_drewN ?_ _) | (with_reducible refine Kd.C_drew ?_))); (case side2 => exact HC0.out); rintro e w' ⟨rfl, ⟨nd, rfl⟩⟩; (try refine ⟨_, rfl, ?_⟩)))
    go_meet
    case rel => exact ⟨_, (true), (by first | rfl | (simp; done) | (simp [*]; done)), H', ⟨by first | omega | exact Nat.le_refl _⟩, ⟨by repeat (first | (with_reducible first | exact HB.out | apply below_alloc | apply pw_below_drewN | apply below_drew1) | exact HB.out)⟩⟩
  case rest =>
   clear HC5
   try clear c1
   try clear p2
   try clear c4
   try clear c7
   try clear c8
   obtain ⟨kq, x27_4, rfl, HA, HJ4, HB⟩ := hcut
   cases kq with
   | zero => exact absurd HA.out (by simp [tattinglaw25_PatchMade.j0])
   | succ kj4 =>
    have H := HA.out
    clear HA
    simp only [tattinglaw25_PatchMade.j0] at H
    by_cases c10 : x27_4 = true
    ·subst c10
     have H1 : (some true) = some r := by rw [if_pos rfl] at H; exact H
     clear H
     have H := H1
     clear H1
     obtain rfl := Option.some.inj H
     go_wp2
     go_ret
     exact ⟨by first | rfl | (simp [errW_none, errW_some] <;> rfl) | (simp [*, errW_none, errW_some] <;> rfl), by repeat (first | (with_reducible first | exact HB.out | apply below_alloc | apply pw_below_drewN | apply below_drew1) | exact HB.out)⟩
    ·replace c10 := Bool.eq_false_iff.mpr c10
     subst c10
     have H1 : (tattinglaw25_PatchMade.l0 kj4 l0 l1 0) = some r := by rw [if_neg (show ¬ (false = true) by decide)] at H; exact H
     clear H
     have H := H1
     clear H1
     have H' := Aside0.mk H
     clear H
     go_wp2
     go_loopg [5] kj4 (fun kq v5 w' => ∃ (x5_2 : Int), v5 = .int .i64 x5_2 ∧ Aside0 (tattinglaw25_PatchMade.l0 kq l0 l1 x5_2 = some r) ∧ Aside0 (kq ≤ kj4) ∧ Aside0 (Below w.heap.size w w'))
     case atStart => exact ⟨(0), (by first | rfl | (simp; done) | (simp [*]; done)), H', ⟨Nat.le_refl _⟩, ⟨by repeat (first | (with_reducible first | exact HB.out | apply below_alloc | apply pw_below_drewN | apply below_drew1) | exact HB.out)⟩⟩
     case round =>
      clear H'
      try clear c1
      try clear p2
      try clear c4
      try clear c7
      try clear c8
      try clear c10
      try clear p2
      obtain ⟨x5_2, rfl, HA, HK2, HB⟩ := hrel
      cases gk with
      | zero => exact absurd HA.out (by simp [tattinglaw25_PatchMade.l0])
      | succ k2 =>
       have H := HA.out
       clear HA
       simp only [tattinglaw25_PatchMade.l0] at H
       by_cases c11 : x5_2 < (l0.length : Int)
       ·rw [if_pos c11] at H
        have c11b0 : decide (x5_2 < (l0.length : Int)) = true := decide_eq_true c11
        clear c11
        by_cases c12 : 0 ≤ x5_2
        ·rw [if_pos c12] at H
         have c12b0 : decide (0 ≤ x5_2) = true := decide_eq_true c12
         clear c12
         by_cases c13 : ((rd_L1 l0 x5_2).length : Int) = 0
         ·rw [if_pos c13] at H
          have c13b0 : (((rd_L1 l0 x5_2).length : Int) == 0) = true := beq_iff_eq.mpr c13
          have c13b1 : (((rd_L1 l0 x5_2).length : Int) != 0) = false := bne_eq_false_iff_eq.mpr c13
          clear c13
          obtain rfl := Option.some.inj H
          have p357 : 0 ≤ (x5_2 : Int) := of_decide_eq_true (by first | (with_reducible assumption) | assumption)
          have q357 : x5_2 < (l0.length : Int) := of_decide_eq_true (by first | (with_reducible assumption) | assumption)
          obtain ⟨ad357, A357_0, c357_0, e357, hx357_0, hl357_0, hi357_0⟩ := at_L1 HR0.out x5_2 p357 q357
          cases e357
          replace hx357_0 := (HB.out.cell (World.block_lt_of_cell? w _ hx357_0)).trans hx357_0
          have HR357_0 := Aside0.mk hi357_0
          have HC357_0 := Aside0.mk hl357_0
          clear hi357_0 hl357_0
          replace p357 := eq_true p357
          replace q357 := eq_true q357
          go_wp2
          go_ret
          exact ⟨by first | rfl | (simp [errW_none, errW_some] <;> rfl) | (simp [*, errW_none, errW_some] <;> rfl), by repeat (first | (with_reducible first | exact HB.out | apply below_alloc | apply pw_below_drewN | apply below_drew1) | exact HB.out)⟩
         ·rw [if_neg c13] at H
          have c13b0 : (((rd_L1 l0 x5_2).length : Int) == 0) = false := beq_eq_false_iff_ne.mpr c13
          have c13b1 : (((rd_L1 l0 x5_2).length : Int) != 0) = true := bne_iff_ne.mpr c13
          have c13b2 : ¬ ((rd_L1 l0 x5_2) = []) := fun h_ => c13 (by rw [h_]; rfl)
          have H' := Aside0.mk H
          clear H
          have p357 : 0 ≤ (x5_2 : Int) := of_decide_eq_true (by first | (with_reducible assumption) | assumption)
          have q357 : x5_2 < (l0.length : Int) := of_decide_eq_true (by first | (with_reducible assumption) | assumption)
          obtain ⟨ad357, A357_0, c357_0, e357, hx357_0, hl357_0, hi357_0⟩ := at_L1 HR0.out x5_2 p357 q357
          cases e357
          replace hx357_0 := (HB.out.cell (World.block_lt_of_cell? w _ hx357_0)).trans hx357_0
          have HR357_0 := Aside0.mk hi357_0
          have HC357_0 := Aside0.mk hl357_0
          clear hi357_0 hl357_0
          replace p357 := eq_true p357
          replace q357 := eq_true q357
          go_wp2
          go_roundg k2
          case measure => have := HJ4.out; have := HK2.out; omega
          case rel => exact ⟨(wrap64 (x5_2 + 1)), (by first | rfl | (simp; done) | (simp [*]; done)), H', ⟨by have := HJ4.out; have := HK2.out; omega⟩, ⟨by repeat (first | (with_reducible first | exact HB.out | apply below_alloc | apply pw_below_drewN | apply below_drew1) | exact HB.out)⟩⟩
        ·rw [if_neg c12] at H
         exact absurd H (by simp)
       ·rw [if_neg c11] at H
        have c11b0 : decide (x5_2 < (l0.length : Int)) = false := decide_eq_false c11
        clear c11
        have H' := Aside0.mk H
        clear H
        go_wp2
        go_loopg [6] k2 (fun kq v6 w' => ∃ (x6_3 : Int), v6 = .int .i64 x6_3 ∧ Aside0 (tattinglaw25_PatchMade.l1 kq l0 l1 x6_3 = some r) ∧ Aside0 (kq ≤ k2) ∧ Aside0 (Below w.heap.size w w'))
        case atStart => exact ⟨(0), (by first | rfl | (simp; done) | (simp [*]; done)), H', ⟨Nat.le_refl _⟩, ⟨by repeat (first | (with_reducible first | exact HB.out | apply below_alloc | apply pw_below_drewN | apply below_drew1) | exact HB.out)⟩⟩
        case round =>
         clear H'
         try clear c1
         try clear p2
         try clear c3
         try clear p3
         try clear q3
         try clear hx3
         try clear c4
         try clear p6
         try clear c7
         try clear c8
         try clear c10
         try clear c11
         try clear c11b0
         try clear c12
         try clear c12b0
         try clear c13
         try clear c13b0
         try clear c13b1
         try clear c13b2
         try clear hx357_0
         try clear p2
         try clear p357
         try clear q357
         obtain ⟨x6_3, rfl, HA, HK3, HB⟩ := hrel
         cases gk with
         | zero => exact absurd HA.out (by simp [tattinglaw25_PatchMade.l1])
         | succ k3 =>
          have H := HA.out
          clear HA
          simp only [tattinglaw25_PatchMade.l1] at H
          by_cases c14 : x6_3 < (l1.length : Int)
          ·rw [if_pos c14] at H
           have c14b0 : decide (x6_3 < (l1.length : Int)) = true := decide_eq_true c14
           clear c14
           by_cases c15 : 0 ≤ x6_3
           ·rw [if_pos c15] at H
            have c15b0 : decide (0 ≤ x6_3) = true := decide_eq_true c15
            clear c15
            by_cases c16 : ((rd_L1 l1 x6_3).length : Int) = 0
            ·rw [if_pos c16] at H
             have c16b0 : (((rd_L1 l1 x6_3).length : Int) == 0) = true := beq_iff_eq.mpr c16
             have c16b1 : (((rd_L1 l1 x6_3).length : Int) != 0) = false := bne_eq_false_iff_eq.mpr c16
             clear c16
             obtain rfl := Option.some.inj H
             have p358 : 0 ≤ (x6_3 : Int) := of_decide_eq_true (by first | (with_reducible assumption) | assumption)
             have q358 : x6_3 < (l1.length : Int) := of_decide_eq_true (by first | (with_reducible assumption) | assumption)
             obtain ⟨ad358, A358_0, c358_0, e358, hx358_0, hl358_0, hi358_0⟩ := at_L1 HR1.out x6_3 p358 q358
             cases e358
             replace hx358_0 := (HB.out.cell (World.block_lt_of_cell? w _ hx358_0)).trans hx358_0
             have HR358_0 := Aside0.mk hi358_0
             have HC358_0 := Aside0.mk hl358_0
             clear hi358_0 hl358_0
             replace p358 := eq_true p358
             replace q358 := eq_true q358
             go_wp2
             go_ret
             exact ⟨by first | rfl | (simp [errW_none, errW_some] <;> rfl) | (simp [*, errW_none, errW_some] <;> rfl), by repeat (first | (with_reducible first | exact HB.out | apply below_alloc | apply pw_below_drewN | apply below_drew1) | exact HB.out)⟩
            ·rw [if_neg c16] at H
             have c16b0 : (((rd_L1 l1 x6_3).length : Int) == 0) = false := beq_eq_false_iff_ne.mpr c16
             have c16b1 : (((rd_L1 l1 x6_3).length : Int) != 0) = true := bne_iff_ne.mpr c16
             have c16b2 : ¬ ((rd_L1 l1 x6_3) = []) := fun h_ => c16 (by rw [h_]; rfl)
             have H' := Aside0.mk H
             clear H
             have p358 : 0 ≤ (x6_3 : Int) := of_decide_eq_true (by first | (with_reducible assumption) | assumption)
             have q358 : x6_3 < (l1.length : Int) := of_decide_eq_true (by first | (with_reducible assumption) | assumption)
             obtain ⟨ad358, A358_0, c358_0, e358, hx358_0, hl358_0, hi358_0⟩ := at_L1 HR1.out x6_3 p358 q358
             cases e358
             replace hx358_0 := (HB.out.cell (World.block_lt_of_cell? w _ hx358_0)).trans hx358_0
             have HR358_0 := Aside0.mk hi358_0
             have HC358_0 := Aside0.mk hl358_0
             clear hi358_0 hl358_0
             replace p358 := eq_true p358
             replace q358 := eq_true q358
             go_wp2
             go_roundg k3
             case measure => have := HJ4.out; have := HK2.out; have := HK3.out; omega
             case rel => exact ⟨(wrap64 (x6_3 + 1)), (by first | rfl | (simp; done) | (simp [*]; done)), H', ⟨by have := HJ4.out; have := HK2.out; have := HK3.out; omega⟩, ⟨by repeat (first | (with_reducible first | exact HB.out | apply below_alloc | apply pw_below_drewN | apply below_drew1) | exact HB.out)⟩⟩
           ·rw [if_neg c15] at H
            exact absurd H (by simp)
          ·rw [if_neg c14] at H
           have c14b0 : decide (x6_3 < (l1.length : Int)) = false := decide_eq_false c14
           clear c14
           replace H := Option.bind_eq_some_iff.mp H
           obtain ⟨⟨t359, t362, t365⟩, A170, H⟩ := H
           replace H : ((tattingref7_Least.f k3 t359 t362).bind fun t366 => ((tattingref24_Make.f k3 l0 l1 t366).bind fun bt369 => ((patch_Apply.f k3 bt369.1 l0).bind fun bt373 => ((patch_Invert.f k3 bt369.1).bind fun bt377 => ((patch_Apply.f k3 bt377.1 l1).bind fun bt381 => (if bt373.2 = 0 then (if bt377.2 = 0 then (if bt381.2 = 0 then ((tattingref1_SameTokens.f k3 bt373.1 l1).bind fun t385 => (if t385 = true then ((tattingref1_SameTokens.f k3 bt381.1 l0).bind fun t386 => (some t386)) else (some false))) else (some false)) else (some false)) else (some false))))))) = some r := H
           have A17 := Aside0.mk A170
           clear A170
           replace H := Option.bind_eq_some_iff.mp H
           obtain ⟨t366, A180, H⟩ := H
           replace H : ((tattingref24_Make.f k3 l0 l1 t366).bind fun bt369 => ((patch_Apply.f k3 bt369.1 l0).bind fun bt373 => ((patch_Invert.f k3 bt369.1).bind fun bt377 => ((patch_Apply.f k3 bt377.1 l1).bind fun bt381 => (if bt373.2 = 0 then (if bt377.2 = 0 then (if bt381.2 = 0 then ((tattingref1_SameTokens.f k3 bt373.1 l1).bind fun t385 => (if t385 = true then ((tattingref1_SameTokens.f k3 bt381.1 l0).bind fun t386 => (some t386)) else (some false))) else (some false)) else (some false)) else (some false)))))) = some r := H
           have A18 := Aside0.mk A180
           clear A180
           replace H := Option.bind_eq_some_iff.mp H
           obtain ⟨⟨t369, t372⟩, A190, H⟩ := H
           replace H : ((patch_Apply.f k3 t369 l0).bind fun bt373 => ((patch_Invert.f k3 t369).bind fun bt377 => ((patch_Apply.f k3 bt377.1 l1).bind fun bt381 => (if bt373.2 = 0 then (if bt377.2 = 0 then (if bt381.2 = 0 then ((tattingref1_SameTokens.f k3 bt373.1 l1).bind fun t385 => (if t385 = true then ((tattingref1_SameTokens.f k3 bt381.1 l0).bind fun t386 => (some t386)) else (some false))) else (some false)) else (some false)) else (some false))))) = some r := H
           have A19 := Aside0.mk A190
           clear A190
           replace H := Option.bind_eq_some_iff.mp H
           obtain ⟨⟨t373, t376⟩, A200, H⟩ := H
           replace H : ((patch_Invert.f k3 t369).bind fun bt377 => ((patch_Apply.f k3 bt377.1 l1).bind fun bt381 => (if t376 = 0 then (if bt377.2 = 0 then (if bt381.2 = 0 then ((tattingref1_SameTokens.f k3 t373 l1).bind fun t385 => (if t385 = true then ((tattingref1_SameTokens.f k3 bt381.1 l0).bind fun t386 => (some t386)) else (some false))) else (some false)) else (some false)) else (some false)))) = some r := H
           have A20 := Aside0.mk A200
           clear A200
           replace H := Option.bind_eq_some_iff.mp H
           obtain ⟨⟨t377, t380⟩, A210, H⟩ := H
           replace H : ((patch_Apply.f k3 t377 l1).bind fun bt381 => (if t376 = 0 then (if t380 = 0 then (if bt381.2 = 0 then ((tattingref1_SameTokens.f k3 t373 l1).bind fun t385 => (if t385 = true then ((tattingref1_SameTokens.f k3 bt381.1 l0).bind fun t386 => (some t386)) else (some false))) else (some false)) else (some false)) else (some false))) = some r := H
           have A21 := Aside0.mk A210
           clear A210
           replace H := Option.bind_eq_some_iff.mp H
           obtain ⟨⟨t381, t384⟩, A220, H⟩ := H
           replace H : (if t376 = 0 then (if t380 = 0 then (if t384 = 0 then ((tattingref1_SameTokens.f k3 t373 l1).bind fun t385 => (if t385 = true then ((tattingref1_SameTokens.f k3 t381 l0).bind fun t386 => (some t386)) else (some false))) else (some false)) else (some false)) else (some false)) = some r := H
           have A22 := Aside0.mk A220
           clear A220
           by_cases c23 : t376 = 0
           ·rw [if_pos c23] at H
            have c23b0 : (t376 == 0) = true := beq_iff_eq.mpr c23
            have c23b1 : (t376 != 0) = false := bne_eq_false_iff_eq.mpr c23
            clear c23
            by_cases c24 : t380 = 0
            ·rw [if_pos c24] at H
             have c24b0 : (t380 == 0) = true := beq_iff_eq.mpr c24
             have c24b1 : (t380 != 0) = false := bne_eq_false_iff_eq.mpr c24
             clear c24
             by_cases c25 : t384 = 0
             ·rw [if_pos c25] at H
              have c25b0 : (t384 == 0) = true := beq_iff_eq.mpr c25
              have c25b1 : (t384 != 0) = false := bne_eq_false_iff_eq.mpr c25
              clear c25
              replace H := Option.bind_eq_some_iff.mp H
              obtain ⟨t385, A260, H⟩ := H
              replace H : (if t385 = true then ((tattingref1_SameTokens.f k3 t381 l0).bind fun t386 => (some t386)) else (some false)) = some r := H
              have A26 := Aside0.mk A260
              clear A260
              by_cases c27 : t385 = true
              ·subst c27
               have H1 : ((tattingref1_SameTokens.f k3 t381 l0).bind fun t386 => (some t386)) = some r := by rw [if_pos rfl] at H; exact H
               clear H
               have H := H1
               clear H1
               replace H := Option.bind_eq_some_iff.mp H
               obtain ⟨t386, A280, H⟩ := H
               replace H : (some t386) = some r := H
               have A28 := Aside0.mk A280
               clear A280
               obtain rfl := Option.some.inj H
               go_wp2_with (first | ((first | (with_reducible refine gate_callee (f := 18) rfl ?_); refine goesL_ (some 55) rfl rfl Try.func18 (by kernel_rfl) rfl #[.slice A0 l0.length c0, .slice A1 l1.length c1] rfl (by (try simp only [List.map_toArray, List.map_cons, List.map_nil]); first | done | rfl | (simp only [List.length_drop, List.length_take]; rfl)) ?_ | go_at_call 18); (with_reducible refine (tattingref1_Two.calls k3 (fun k_ => k_ < w.heap.size) _ _ l0 (fun k_ => k_ < w.heap.size) _ _ l1 t359 t362 t365 _ ?side1 ?side2 A17.out).mono ?_); (case side1 => exact Kd.V_mk HC0.out (Kd.F_below (Kd.C_F (Kd.heap_slice 5 (Kd.heap_int .u8)) HR0.out) (by repeat (first | (with_reducible first | exact HB.out | apply below_alloc | apply pw_below_drewN | apply below_drew1) | exact HB.out)))); (case side2 => exact Kd.V_mk HC1.out (Kd.F_below (Kd.C_F (Kd.heap_slice 5 (Kd.heap_int .u8)) HR1.out) (by repeat (first | (with_reducible first | exact HB.out | apply below_alloc | apply pw_below_drewN | apply below_drew1) | exact HB.out)))); rintro e w29 ⟨v360, v363, rfl, ho0, ho1, hb⟩; (try refine ⟨_, rfl, ?_⟩); have n0_ := Aside0.mk (Kd.R_lower (Kd.R_mono (ok' := fun k_ => some k_ ≠ (v363 : Value).ownBlock) ho0 (fun _ hk_ => hk_.2)) (below_size (by repeat (first | (with_reducible first | exact HB.out | apply below_alloc | apply pw_below_drewN | apply below_drew1) | exact HB.out)))); have n1_ := Aside0.mk (Kd.R_lower (Kd.R_mono (ok' := fun k_ => some k_ ≠ (v360 : Value).ownBlock) ho1 (fun _ hk_ => hk_.2)) (below_size (by repeat (first | (with_reducible first | exact HB.out | apply below_alloc | apply pw_below_drewN | apply below_drew1) | exact HB.out)))); have n2_ := Aside0.mk (below_step (by repeat (first | (with_reducible first | exact HB.out | apply below_alloc | apply pw_below_drewN | apply below_drew1) | exact HB.out)) hb); clear HB; have HO361 := n0_; have HO364 := n1_; have HB := n2_; clear n0_ n1_ n2_; (try clear hb); (try clear hb2); (try clear hk); (try clear hi); (try clear ho0); (try clear ho1); obtain ⟨Ao30, co30, eo30⟩ := Kd.R_slice HO361.out; subst eo30; obtain ⟨Ao31, co31, eo31⟩ := Kd.R_slice HO364.out; subst eo31) | ((first | (with_reducible refine gate_callee (f := 20) rfl ?_); refine goesL_ (some 64) rfl rfl Try.func20 (by kernel_rfl) rfl #[.slice Ao30 t359.length co30, .slice Ao31 t362.length co31] rfl (by (try simp only [List.map_toArray, List.map_cons, List.map_nil]); first | done | rfl | (simp only [List.length_drop, List.length_take]; rfl)) ?_ | go_at_call 20); (with_reducible refine (tattingref7_Least.calls k3 _ _ t359 _ _ t362 t366 _ ?side1 ?side2 ?side3 ?side4 A18.out).mono ?_); (case side1 => repeat (first | exact (Kd.R_reads' HO361.out).2.2 | (with_reducible refine Kd.C_alloc ?_ _) | (with_reducible refine Kd.C_drewN ?_ _) | (with_reducible refine Kd.C_drew ?_))); (case side2 => exact (Kd.R_reads' HO361.out).2.1); (case side3 => repeat (first | exact (Kd.R_reads' HO364.out).2.2 | (with_reducible refine Kd.C_alloc ?_ _) | (with_reducible refine Kd.C_drewN ?_ _) | (with_reducible refine Kd.C_drew ?_))); (case side4 => exact (Kd.R_reads' HO364.out).2.1); rintro e w32 ⟨v367, rfl, ho0, hb⟩; (try refine ⟨_, rfl, ?_⟩); have n0_ := Aside0.mk (Kd.R_below (by (with_reducible repeat (first | apply Kd.R_alloc | apply Kd.R_drewN | apply Kd.R_drew)); exact HO361.out) hb); have n1_ := Aside0.mk (Kd.R_below (by (with_reducible repeat (first | apply Kd.R_alloc | apply Kd.R_drewN | apply Kd.R_drew)); exact HO364.out) hb); have n2_ := Aside0.mk (Kd.R_lower ho0 (below_size (by repeat (first | (with_reducible first | exact HB.out | apply below_alloc | apply pw_below_drewN | apply below_drew1) | exact HB.out)))); have n3_ := Aside0.mk (below_step (by repeat (first | (with_reducible first | exact HB.out | apply below_alloc | apply pw_below_drewN | apply below_drew1) | exact HB.out)) hb); clear HO361; clear HO364; clear HB; have HO361 := n0_; have HO364 := n1_; have HO368 := n2_; have HB := n3_; clear n0_ n1_ n2_ n3_; (try clear hb); (try clear hb2); (try clear hk); (try clear hi); (try clear ho0); obtain ⟨Ao33, co33, eo33⟩ := Kd.R_slice HO368.out; subst eo33) | ((first | (with_reducible refine gate_callee (f := 19) rfl ?_); refine goesL_ (some 65) rfl rfl Try.func19 (by kernel_rfl) rfl #[.slice A0 l0.length c0, .slice A1 l1.length c1, .slice Ao33 t366.length co33] rfl (by (try simp only [List.map_toArray, List.map_cons, List.map_nil]); first | done | rfl | (simp only [List.length_drop, List.length_take]; rfl)) ?_ | go_at_call 19); (with_reducible refine (tattingref24_Make.calls k3 (fun k_ => k_ < w.heap.size) _ _ l0 (fun k_ => k_ < w.heap.size) _ _ l1 _ _ t366 t369 t372 _ ?side1 ?side2 ?side3 ?side4 A19.out).mono ?_); (case side1 => exact Kd.V_mk HC0.out (Kd.F_below (Kd.C_F (Kd.heap_slice 5 (Kd.heap_int .u8)) HR0.out) (by repeat (first | (with_reducible first | exact HB.out | apply below_alloc | apply pw_below_drewN | apply below_drew1) | exact HB.out)))); (case side2 => exact Kd.V_mk HC1.out (Kd.F_below (Kd.C_F (Kd.heap_slice 5 (Kd.heap_int .u8)) HR1.out) (by repeat (first | (with_reducible first | exact HB.out | apply below_alloc | apply pw_below_drewN | apply below_drew1) | exact HB.out)))); (case side3 => repeat (first | exact (Kd.R_reads' HO368.out).2.2 | (with_reducible refine Kd.C_alloc ?_ _) | (with_reducible refine Kd.C_drewN ?_ _) | (with_reducible refine Kd.C_drew ?_))); (case side4 => exact (Kd.R_reads' HO368.out).2.1); rintro e w34 ⟨v370, rfl, ho0, hb⟩; (try refine ⟨_, rfl, ?_⟩); have n0_ := Aside0.mk (Kd.R_below (by (with_reducible repeat (first | apply Kd.R_alloc | apply Kd.R_drewN | apply Kd.R_drew)); exact HO361.out) hb); have n1_ := Aside0.mk (Kd.R_below (by (with_reducible repeat (first | apply Kd.R_alloc | apply Kd.R_drewN | apply Kd.R_drew)); exact HO364.out) hb); have n2_ := Aside0.mk (Kd.R_below (by (with_reducible repeat (first | apply Kd.R_alloc | apply Kd.R_drewN | apply Kd.R_drew)); exact HO368.out) hb); have n3_ := Aside0.mk (Kd.N_lower (Kd.N_mono (ok' := fun k_ => some k_ ≠ (.slice Ao30 t359.length co30 : Value).ownBlock ∧ some k_ ≠ (.slice Ao31 t362.length co31 : Value).ownBlock ∧ some k_ ≠ (.slice Ao33 t366.length co33 : Value).ownBlock) ho0 (fun k_ hk_ => ⟨Or.elim hk_ (fun hs_ => Or.elim hs_ (fun hs_ => fun e_ => Nat.not_le.2 hs_ (Kd.R_base HO361.out k_ e_.symm)) (fun hs_ => fun e_ => Nat.not_le.2 hs_ (Kd.R_base HO361.out k_ e_.symm))) (fun hn_ => (Kd.fresh' (Kd.R_lt (by (with_reducible repeat (first | apply Kd.R_alloc | apply Kd.R_drewN | apply Kd.R_drew)); exact HO361.out)) k_ hn_)), Or.elim hk_ (fun hs_ => Or.elim hs_ (fun hs_ => fun e_ => Nat.not_le.2 hs_ (Kd.R_base HO364.out k_ e_.symm)) (fun hs_ => fun e_ => Nat.not_le.2 hs_ (Kd.R_base HO364.out k_ e_.symm))) (fun hn_ => (Kd.fresh' (Kd.R_lt (by (with_reducible repeat (first | apply Kd.R_alloc | apply Kd.R_drewN | apply Kd.R_drew)); exact HO364.out)) k_ hn_)), Or.elim hk_ (fun hs_ => Or.elim hs_ (fun hs_ => fun e_ => Nat.not_le.2 hs_ (Kd.R_base HO368.out k_ e_.symm)) (fun hs_ => fun e_ => Nat.not_le.2 hs_ (Kd.R_base HO368.out k_ e_.symm))) (fun hn_ => (Kd.fresh' (Kd.R_lt (by (with_reducible repeat (first | apply Kd.R_alloc | apply Kd.R_drewN | apply Kd.R_drew)); exact HO368.out)) k_ hn_))⟩)) (below_size (by repeat (first | (with_reducible first | exact HB.out | apply below_alloc | apply pw_below_drewN | apply below_drew1) | exact HB.out)))); have n4_ := Aside0.mk (below_step (by repeat (first | (with_reducible first | exact HB.out | apply below_alloc | apply pw_below_drewN | apply below_drew1) | exact HB.out)) hb); clear HO361; clear HO364; clear HO368; clear HB; have HO361 := n0_; have HO364 := n1_; have HO368 := n2_; have HO371 := n3_; have HB := n4_; clear n0_ n1_ n2_ n3_ n4_; (try clear hb); (try clear hb2); (try clear hk); (try clear hi); (try clear ho0); obtain ⟨Ao35, co35, eo35⟩ := Kd.N_slice HO371.out; subst eo35) | ((first | (with_reducible refine gate_callee (f := 9) rfl ?_); refine goesL_ (some 71) rfl rfl Try.func9 (by kernel_rfl) rfl #[.slice Ao35 t369.length co35, .slice A0 l0.length c0] rfl (by (try simp only [List.map_toArray, List.map_cons, List.map_nil]); first | done | rfl | (simp only [List.length_drop, List.length_take]; rfl)) ?_ | go_at_call 9); (with_reducible refine (patch_Apply.calls k3 _ _ t369 _ _ l0 t373 t376 _ ?side1 ?side2 ?side3 ?side4 A20.out).mono ?_); (case side1 => repeat (first | exact (Kd.N_reads' HO371.out).2.2 | (with_reducible refine Kd.C_alloc ?_ _) | (with_reducible refine Kd.C_drewN ?_ _) | (with_reducible refine Kd.C_drew ?_))); (case side2 => exact (Kd.N_reads' HO371.out).2.1); (case side3 => repeat (first | exact (Kd.C_below HR0.out HB.out) | (with_reducible refine Kd.C_alloc ?_ _) | (with_reducible refine Kd.C_drewN ?_ _) | (with_reducible refine Kd.C_drew ?_))); (case side4 => exact HC0.out); rintro e w36 ⟨v374, rfl, ho0, hb⟩; (try refine ⟨_, rfl, ?_⟩); have n0_ := Aside0.mk (Kd.R_below (by (with_reducible repeat (first | apply Kd.R_alloc | apply Kd.R_drewN | apply Kd.R_drew)); exact HO361.out) hb); have n1_ := Aside0.mk (Kd.R_below (by (with_reducible repeat (first | apply Kd.R_alloc | apply Kd.R_drewN | apply Kd.R_drew)); exact HO364.out) hb); have n2_ := Aside0.mk (Kd.R_below (by (with_reducible repeat (first | apply Kd.R_alloc | apply Kd.R_drewN | apply Kd.R_drew)); exact HO368.out) hb); have n3_ := Aside0.mk (Kd.N_elder' (by (with_reducible repeat (first | apply Kd.N_alloc | apply Kd.N_drewN | apply Kd.N_drew)); exact HO371.out) (Kd.N_base ho0) hb); have n4_ := Aside0.mk (Kd.N_lower (Kd.N_mono (ok' := fun k_ => some k_ ≠ (.slice Ao30 t359.length co30 : Value).ownBlock ∧ some k_ ≠ (.slice Ao31 t362.length co31 : Value).ownBlock ∧ some k_ ≠ (.slice Ao33 t366.length co33 : Value).ownBlock ∧ some k_ ≠ (.slice Ao35 t369.length co35 : Value).ownBlock) ho0 (fun k_ hk_ => ⟨(Kd.fresh' (Kd.R_lt (by (with_reducible repeat (first | apply Kd.R_alloc | apply Kd.R_drewN | apply Kd.R_drew)); exact HO361.out)) k_ hk_), (Kd.fresh' (Kd.R_lt (by (with_reducible repeat (first | apply Kd.R_alloc | apply Kd.R_drewN | apply Kd.R_drew)); exact HO364.out)) k_ hk_), (Kd.fresh' (Kd.R_lt (by (with_reducible repeat (first | apply Kd.R_alloc | apply Kd.R_drewN | apply Kd.R_drew)); exact HO368.out)) k_ hk_), (Kd.fresh' (Kd.N_lt (by (with_reducible repeat (first | apply Kd.N_alloc | apply Kd.N_drewN | apply Kd.N_drew)); exact HO371.out)) k_ hk_)⟩)) (below_size (by repeat (first | (with_reducible first | exact HB.out | apply below_alloc | apply pw_below_drewN | apply below_drew1) | exact HB.out)))); have n5_ := Aside0.mk (below_step (by repeat (first | (with_reducible first | exact HB.out | apply below_alloc | apply pw_below_drewN | apply below_drew1) | exact HB.out)) hb); clear HO361; clear HO364; clear HO368; clear HO371; clear HB; have HO361 := n0_; have HO364 := n1_; have HO368 := n2_; have HO371 := n3_; have HO375 := n4_; have HB := n5_; clear n0_ n1_ n2_ n3_ n4_ n5_; (try clear hb); (try clear hb2); (try clear hk); (try clear hi); (try clear ho0)) | ((first | (with_reducible refine gate_callee (f := 10) rfl ?_); refine goesL_ (some 76) rfl rfl Try.func10 (by kernel_rfl) rfl #[.slice Ao35 t369.length co35] rfl (by (try simp only [List.map_toArray, List.map_cons, List.map_nil]); first | done | rfl | (simp only [List.length_drop, List.length_take]; rfl)) ?_ | go_at_call 10); (with_reducible refine (patch_Invert.calls k3 _ _ t369 t377 t380 _ ?side1 ?side2 A21.out).mono ?_); (case side1 => repeat (first | exact (Kd.N_reads' HO371.out).2.2 | (with_reducible refine Kd.C_alloc ?_ _) | (with_reducible refine Kd.C_drewN ?_ _) | (with_reducible refine Kd.C_drew ?_))); (case side2 => exact (Kd.N_reads' HO371.out).2.1); rintro e w37 ⟨v378, rfl, ho0, hb⟩; (try refine ⟨_, rfl, ?_⟩); have n0_ := Aside0.mk (Kd.R_below (by (with_reducible repeat (first | apply Kd.R_alloc | apply Kd.R_drewN | apply Kd.R_drew)); exact HO361.out) hb); have n1_ := Aside0.mk (Kd.R_below (by (with_reducible repeat (first | apply Kd.R_alloc | apply Kd.R_drewN | apply Kd.R_drew)); exact HO364.out) hb); have n2_ := Aside0.mk (Kd.R_below (by (with_reducible repeat (first | apply Kd.R_alloc | apply Kd.R_drewN | apply Kd.R_drew)); exact HO368.out) hb); have n3_ := Aside0.mk (Kd.N_elder' (by (with_reducible repeat (first | apply Kd.N_alloc | apply Kd.N_drewN | apply Kd.N_drew)); exact HO371.out) (Kd.N_base ho0) hb); have n4_ := Aside0.mk (Kd.N_elder' (by (with_reducible repeat (first | apply Kd.N_alloc | apply Kd.N_drewN | apply Kd.N_drew)); exact HO375.out) (Kd.N_base ho0) hb); have n5_ := Aside0.mk (Kd.N_lower (Kd.N_mono (ok' := fun k_ => some k_ ≠ (.slice Ao30 t359.length co30 : Value).ownBlock ∧ some k_ ≠ (.slice Ao31 t362.length co31 : Value).ownBlock ∧ some k_ ≠ (.slice Ao33 t366.length co33 : Value).ownBlock ∧ some k_ ≠ (.slice Ao35 t369.length co35 : Value).ownBlock ∧ some k_ ≠ (v374 : Value).ownBlock) ho0 (fun k_ hk_ => ⟨(Kd.fresh' (Kd.R_lt (by (with_reducible repeat (first | apply Kd.R_alloc | apply Kd.R_drewN | apply Kd.R_drew)); exact HO361.out)) k_ hk_), (Kd.fresh' (Kd.R_lt (by (with_reducible repeat (first | apply Kd.R_alloc | apply Kd.R_drewN | apply Kd.R_drew)); exact HO364.out)) k_ hk_), (Kd.fresh' (Kd.R_lt (by (with_reducible repeat (first | apply Kd.R_alloc | apply Kd.R_drewN | apply Kd.R_drew)); exact HO368.out)) k_ hk_), (Kd.fresh' (Kd.N_lt (by (with_reducible repeat (first | apply Kd.N_alloc | apply Kd.N_drewN | apply Kd.N_drew)); exact HO371.out)) k_ hk_), (Kd.fresh' (Kd.N_lt (by (with_reducible repeat (first | apply Kd.N_alloc | apply Kd.N_drewN | apply Kd.N_drew)); exact HO375.out)) k_ hk_)⟩)) (below_size (by repeat (first | (with_reducible first | exact HB.out | apply below_alloc | apply pw_below_drewN | apply below_drew1) | exact HB.out)))); have n6_ := Aside0.mk (below_step (by repeat (first | (with_reducible first | exact HB.out | apply below_alloc | apply pw_below_drewN | apply below_drew1) | exact HB.out)) hb); clear HO361; clear HO364; clear HO368; clear HO371; clear HO375; clear HB; have HO361 := n0_; have HO364 := n1_; have HO368 := n2_; have HO371 := n3_; have HO375 := n4_; have HO379 := n5_; have HB := n6_; clear n0_ n1_ n2_ n3_ n4_ n5_ n6_; (try clear hb); (try clear hb2); (try clear hk); (try clear hi); (try clear ho0); obtain ⟨Ao38, co38, eo38⟩ := Kd.N_slice HO379.out; subst eo38) | ((first | (with_reducible refine gate_callee (f := 9) rfl ?_); refine goesL_ (some 82) rfl rfl Try.func9 (by kernel_rfl) rfl #[.slice Ao38 t377.length co38, .slice A1 l1.length c1] rfl (by (try simp only [List.map_toArray, List.map_cons, List.map_nil]); first | done | rfl | (simp only [List.length_drop, List.length_take]; rfl)) ?_ | go_at_call 9); (with_reducible refine (patch_Apply.calls k3 _ _ t377 _ _ l1 t381 t384 _ ?side1 ?side2 ?side3 ?side4 A22.out).mono ?_); (case side1 => repeat (first | exact (Kd.N_reads' HO379.out).2.2 | (with_reducible refine Kd.C_alloc ?_ _) | (with_reducible refine Kd.C_drewN ?_ _) | (with_reducible refine Kd.C_drew ?_))); (case side2 => exact (Kd.N_reads' HO379.out).2.1); (case side3 => repeat (first | exact (Kd.C_below HR1.out HB.out) | (with_reducible refine Kd.C_alloc ?_ _) | (with_reducible refine Kd.C_drewN ?_ _) | (with_reducible refine Kd.C_drew ?_))); (case side4 => exact HC1.out); rintro e w39 ⟨v382, rfl, ho0, hb⟩; (try refine ⟨_, rfl, ?_⟩); have n0_ := Aside0.mk (Kd.R_below (by (with_reducible repeat (first | apply Kd.R_alloc | apply Kd.R_drewN | apply Kd.R_drew)); exact HO361.out) hb); have n1_ := Aside0.mk (Kd.R_below (by (with_reducible repeat (first | apply Kd.R_alloc | apply Kd.R_drewN | apply Kd.R_drew)); exact HO364.out) hb); have n2_ := Aside0.mk (Kd.R_below (by (with_reducible repeat (first | apply Kd.R_alloc | apply Kd.R_drewN | apply Kd.R_drew)); exact HO368.out) hb); have n3_ := Aside0.mk (Kd.N_elder' (by (with_reducible repeat (first | apply Kd.N_alloc | apply Kd.N_drewN | apply Kd.N_drew)); exact HO371.out) (Kd.N_base ho0) hb); have n4_ := Aside0.mk (Kd.N_elder' (by (with_reducible repeat (first | apply Kd.N_alloc | apply Kd.N_drewN | apply Kd.N_drew)); exact HO375.out) (Kd.N_base ho0) hb); have n5_ := Aside0.mk (Kd.N_elder' (by (with_reducible repeat (first | apply Kd.N_alloc | apply Kd.N_drewN | apply Kd.N_drew)); exact HO379.out) (Kd.N_base ho0) hb); have n6_ := Aside0.mk (Kd.N_lower (Kd.N_mono (ok' := fun k_ => some k_ ≠ (.slice Ao30 t359.length co30 : Value).ownBlock ∧ some k_ ≠ (.slice Ao31 t362.length co31 : Value).ownBlock ∧ some k_ ≠ (.slice Ao33 t366.length co33 : Value).ownBlock ∧ some k_ ≠ (.slice Ao35 t369.length co35 : Value).ownBlock ∧ some k_ ≠ (v374 : Value).ownBlock ∧ some k_ ≠ (.slice Ao38 t377.length co38 : Value).ownBlock) ho0 (fun k_ hk_ => ⟨(Kd.fresh' (Kd.R_lt (by (with_reducible repeat (first | apply Kd.R_alloc | apply Kd.R_drewN | apply Kd.R_drew)); exact HO361.out)) k_ hk_), (Kd.fresh' (Kd.R_lt (by (with_reducible repeat (first | apply Kd.R_alloc | apply Kd.R_drewN | apply Kd.R_drew)); exact HO364.out)) k_ hk_), (Kd.fresh' (Kd.R_lt (by (with_reducible repeat (first | apply Kd.R_alloc | apply Kd.R_drewN | apply Kd.R_drew)); exact HO368.out)) k_ hk_), (Kd.fresh' (Kd.N_lt (by (with_reducible repeat (first | apply Kd.N_alloc | apply Kd.N_drewN | apply Kd.N_drew)); exact HO371.out)) k_ hk_), (Kd.fresh' (Kd.N_lt (by (with_reducible repeat (first | apply Kd.N_alloc | apply Kd.N_drewN | apply Kd.N_drew)); exact HO375.out)) k_ hk_), (Kd.fresh' (Kd.N_lt (by (with_reducible repeat (first | apply Kd.N_alloc | apply Kd.N_drewN | apply Kd.N_drew)); exact HO379.out)) k_ hk_)⟩)) (below_size (by repeat (first | (with_reducible first | exact HB.out | apply below_alloc | apply pw_below_drewN | apply below_drew1) | exact HB.out)))); have n7_ := Aside0.mk (below_step (by repeat (first | (with_reducible first | exact HB.out | apply below_alloc | apply pw_below_drewN | apply below_drew1) | exact HB.out)) hb); clear HO361; clear HO364; clear HO368; clear HO371; clear HO375; clear HO379; clear HB; have HO361 := n0_; have HO364 := n1_; have HO368 := n2_; have HO371 := n3_; have HO375 := n4_; have HO379 := n5_; have HO383 := n6_; have HB := n7_; clear n0_ n1_ n2_ n3_ n4_ n5_ n6_ n7_; (try clear hb); (try clear hb2); (try clear hk); (try clear hi); (try clear ho0); obtain ⟨Ao40, co40, eo40⟩ := Kd.N_slice HO375.out; subst eo40) | (go_at_call 15; (with_reducible refine (tattingref1_SameTokens.calls k3 _ _ t373 _ _ l1 true _ ?side1 ?side2 ?side3 ?side4 A26.out).mono ?_); (case side1 => repeat (first | exact (Kd.N_reads' HO375.out).2.2 | (with_reducible refine Kd.C_alloc ?_ _) | (with_reducible refine Kd.C_drewN ?_ _) | (with_reducible refine Kd.C_drew ?_))); (case side2 => exact (Kd.N_reads' HO375.out).2.1); (case side3 => repeat (first | exact (Kd.C_below HR1.out HB.out) | (with_reducible refine Kd.C_alloc ?_ _) | (with_reducible refine Kd.C_drewN ?_ _) | (with_reducible refine Kd.C_drew ?_))); (case side4 => exact HC1.out); rintro e w' ⟨rfl, ⟨nd, rfl⟩⟩; obtain ⟨Ao41, co41, eo41⟩ := Kd.N_slice HO383.out; subst eo41) | (go_at_call 15; (with_reducible refine (tattingref1_SameTokens.calls k3 _ _ t381 _ _ l0 t386 _ ?side1 ?side2 ?side3 ?side4 A28.out).mono ?_); (case side1 => repeat (first | exact (Kd.N_reads' HO383.out).2.2 | (with_reducible refine Kd.C_alloc ?_ _) | (with_reducible refine Kd.C_drewN ?_ _) | (with_reducible refine Kd.C_drew ?_))); (case side2 => exact (Kd.N_reads' HO383.out).2.1); (case side3 => repeat (first | exact (Kd.C_below HR0.out (by repeat (first | (with_reducible first | exact HB.out | apply below_alloc | apply pw_below_drewN | apply below_drew1) | exact HB.out))) | (with_reducible refine Kd.C_alloc ?_ _) | (with_reducible refine Kd.C_drewN ?_ _) | (with_reducible refine Kd.C_drew ?_))); (case side4 => exact HC0.out); rintro e w' ⟨rfl, ⟨nd, rfl⟩⟩))
               go_ret
               exact ⟨by first | rfl | (simp [errW_none, errW_some] <;> rfl) | (simp [*, errW_none, errW_some] <;> rfl), by repeat (first | (with_reducible first | exact HB.out | apply below_alloc | apply pw_below_drewN | apply below_drew1) | exact HB.out)⟩
              ·replace c27 := Bool.eq_false_iff.mpr c27
               subst c27
               have H1 : (some false) = some r := by rw [if_neg (show ¬ (false = true) by decide)] at H; exact H
               clear H
               have H := H1
               clear H1
               exact absurd (Option.some.inj H) (by rw [hr_]; decide)
             ·rw [if_neg c25] at H
              have c25b0 : (t384 == 0) = false := beq_eq_false_iff_ne.mpr c25
              have c25b1 : (t384 != 0) = true := bne_iff_ne.mpr c25
              exact absurd (Option.some.inj H) (by rw [hr_]; decide)
            ·rw [if_neg c24] at H
             have c24b0 : (t380 == 0) = false := beq_eq_false_iff_ne.mpr c24
             have c24b1 : (t380 != 0) = true := bne_iff_ne.mpr c24
             exact absurd (Option.some.inj H) (by rw [hr_]; decide)
           ·rw [if_neg c23] at H
            have c23b0 : (t376 == 0) = false := beq_eq_false_iff_ne.mpr c23
            have c23b1 : (t376 != 0) = true := bne_iff_ne.mpr c23
            exact absurd (Option.some.inj H) (by rw [hr_]; decide)
 ·replace c4 := Bool.eq_false_iff.mpr c4
  subst c4
  have H1 : (some false) = some r := by rw [if_neg (show ¬ (false = true) by decide)] at H; exact H
  clear H
  have H := H1
  clear H1
  exact absurd (Option.some.inj H) (by rw [hr_]; decide)

end Go.Proofs.Ytlodaoijokfblaa.PPatchMade
