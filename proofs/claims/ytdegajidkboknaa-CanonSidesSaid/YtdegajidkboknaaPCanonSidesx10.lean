/- What the given program's functions come to, each a Lean function and the walk that shows it: no condition beside those that each theorem names. -/
import Derived.Test.YtdegajidkboknaaPCanonSidesx0
import Derived.Test.YtdegajidkboknaaPCanonSidesx4
import Derived.Test.YtdegajidkboknaaPCanonSidesx7
import Derived.Test.YtdegajidkboknaaPCanonSidesx8
import Derived.Test.YtdegajidkboknaaPCanonSidesx9
namespace Go.Proofs.Ytdegajidkboknaa.PCanonSides
open Go.RowKit Go.Proofs.YtdegajidkboknaaW.PrintWords Go.Proofs.YtdegajidkboknaaW.PrintLast Go.Proofs.YtdegajidkboknaaW.PrintMore
attribute [local go_sem] max2_int min2_int max_two min_two max_three min_three max_four min_four   -- for this text's walks alone
set_option linter.unusedVariables false
set_option linter.unusedSimpArgs false

/-! ### tattinglaw23_CanonSides: function 5 -/
def tattinglaw23_CanonSides.j0 : Nat → List Int → List Int → List (S28) → Bool → Option (Bool)
 | 0, _, _, _, _ => none
 | k + 1, x0, x1, x2, x31 => if x31 = true then (some true) else ((tattingref1_Few.f k x0 3).bind fun t280 => ((tattingref1_Few.f k x1 3).bind fun t283 => ((canon_Left.f k t280 t283 x2).bind fun bt286 => ((tattingref7_Left.f k t280 t283 x2).bind fun bt290 => ((canon_Top.f k t280 t283 x2).bind fun bt294 => ((tattingref7_Top.f k t280 t283 x2).bind fun bt298 => (if bt286.2 = bt290.2 then (if bt294.2 = bt298.2 then ((tattingref1_SamePairs.f k bt286.1 bt290.1).bind fun t302 => (if t302 = true then ((tattingref1_SamePairs.f k bt294.1 bt298.1).bind fun t303 => (some t303)) else (some false))) else (some false)) else (some false))))))))
def tattinglaw23_CanonSides.f (k : Nat) (l0 : List Int) (l1 : List Int) (l2 : List (S28)) : Option (Bool) := (tattinglaw23_awake.f k).bind fun t279 => (if t279 = true then (if (l0.length : Int) > 30 then (tattinglaw23_CanonSides.j0 k l0 l1 l2 true) else (if (l1.length : Int) > 30 then (tattinglaw23_CanonSides.j0 k l0 l1 l2 true) else (tattinglaw23_CanonSides.j0 k l0 l1 l2 (decide ((l2.length : Int) > 30))))) else (some false))
theorem tattinglaw23_CanonSides.mono_l : ∀ k, (∀ y0 y1 y2 y3, LeO (tattinglaw23_CanonSides.j0 k y0 y1 y2 y3) (tattinglaw23_CanonSides.j0 (k + 1) y0 y1 y2 y3))
 | 0 => fun _ _ _ _ r h => by simp [tattinglaw23_CanonSides.j0] at h
 | k + 1 => by
  have ih0 := tattinglaw23_CanonSides.mono_l k
  ·intro y0 y1 y2 y3
   unfold tattinglaw23_CanonSides.j0
   repeat' first
   | (with_reducible exact ih0 _ _ _ _)
   | (with_reducible exact canon_Left.mono _ _ _ _)
   | (with_reducible exact canon_Top.mono _ _ _ _)
   | (with_reducible exact tattinglaw23_awake.mono _)
   | (with_reducible exact tattingref1_Few.mono _ _ _)
   | (with_reducible exact tattingref1_SamePairs.mono _ _ _)
   | (with_reducible exact tattingref7_Left.mono _ _ _ _)
   | (with_reducible exact tattingref7_Top.mono _ _ _ _)
   | (with_reducible exact LeO.refl _)
   | (with_reducible exact LeO.none _)
   | (with_reducible refine LeO.ite ?_ ?_)
   | (with_reducible refine LeO.bind ?_ (fun _ => ?_))
   | exact ih0 _ _ _ _
   | exact canon_Left.mono _ _ _ _
   | exact canon_Top.mono _ _ _ _
   | exact tattinglaw23_awake.mono _
   | exact tattingref1_Few.mono _ _ _
   | exact tattingref1_SamePairs.mono _ _ _
   | exact tattingref7_Left.mono _ _ _ _
   | exact tattingref7_Top.mono _ _ _ _
   | exact LeO.none _
   | refine LeO.ite ?_ ?_
   | refine LeO.bind ?_ (fun _ => ?_)
theorem tattinglaw23_CanonSides.mono : ∀ a0 a1 a2 k, LeO (tattinglaw23_CanonSides.f k a0 a1 a2) (tattinglaw23_CanonSides.f (k + 1) a0 a1 a2) := by
 intro a0 a1 a2 k
 have ih0 := tattinglaw23_CanonSides.mono_l k
 unfold tattinglaw23_CanonSides.f
 repeat' first
   | (with_reducible exact ih0 _ _ _ _)
   | (with_reducible exact canon_Left.mono _ _ _ _)
   | (with_reducible exact canon_Top.mono _ _ _ _)
   | (with_reducible exact tattinglaw23_awake.mono _)
   | (with_reducible exact tattingref1_Few.mono _ _ _)
   | (with_reducible exact tattingref1_SamePairs.mono _ _ _)
   | (with_reducible exact tattingref7_Left.mono _ _ _ _)
   | (with_reducible exact tattingref7_Top.mono _ _ _ _)
   | (with_reducible exact LeO.refl _)
   | (with_reducible exact LeO.none _)
   | (with_reducible refine LeO.ite ?_ ?_)
   | (with_reducible refine LeO.bind ?_ (fun _ => ?_))
   | exact ih0 _ _ _ _
   | exact canon_Left.mono _ _ _ _
   | exact canon_Top.mono _ _ _ _
   | exact tattinglaw23_awake.mono _
   | exact tattingref1_Few.mono _ _ _
   | exact tattingref1_SamePairs.mono _ _ _
   | exact tattingref7_Left.mono _ _ _ _
   | exact tattingref7_Top.mono _ _ _ _
   | exact LeO.none _
   | refine LeO.ite ?_ ?_
   | refine LeO.bind ?_ (fun _ => ?_)
set_option maxHeartbeats 8000000 in
set_option maxRecDepth 100000 in
theorem tattinglaw23_CanonSides.calls (k : Nat) (A0 : Option Addr) (c0 : Nat) (l0 : List Int) (A1 : Option Addr) (c1 : Nat) (l1 : List Int) (A2 : Option Addr) (c2 : Nat) (l2 : List (S28)) (r : Bool) (w : World) (hr0 : Kd.C (Kd.int .i64) w A0 l0.length l0) (hc0 : l0.length ≤ c0) (hr1 : Kd.C (Kd.int .i64) w A1 l1.length l1) (hc1 : l1.length ≤ c1) (hr2 : Kd.C k28 w A2 l2.length l2) (hc2 : l2.length ≤ c2) (h : tattinglaw23_CanonSides.f k l0 l1 l2 = some r) (hr_ : r = true) :
  Calls Try.prog 5 #[.slice A0 l0.length c0, .slice A1 l1.length c1, .slice A2 l2.length c2] w fun e w' => e = .returned (.bool r) ∧ Below w.heap.size w w' := by
 have HR0 := Aside0.mk hr0
 have HC0 := Aside0.mk hc0
 clear hr0 hc0
 have HR1 := Aside0.mk hr1
 have HC1 := Aside0.mk hc1
 clear hr1 hc1
 have HR2 := Aside0.mk hr2
 have HC2 := Aside0.mk hc2
 clear hr2 hc2
 have HB := Aside0.mk (Below.refl w.heap.size w)
 have H : ((tattinglaw23_awake.f k).bind fun t279 => (if t279 = true then (if (l0.length : Int) > 30 then (tattinglaw23_CanonSides.j0 k l0 l1 l2 true) else (if (l1.length : Int) > 30 then (tattinglaw23_CanonSides.j0 k l0 l1 l2 true) else (tattinglaw23_CanonSides.j0 k l0 l1 l2 (decide ((l2.length : Int) > 30))))) else (some false))) = some r := h
 clear h
 replace H := Option.bind_eq_some_iff.mp H
 obtain ⟨t279, A40, H⟩ := H
 replace H : (if t279 = true then (if (l0.length : Int) > 30 then (tattinglaw23_CanonSides.j0 k l0 l1 l2 true) else (if (l1.length : Int) > 30 then (tattinglaw23_CanonSides.j0 k l0 l1 l2 true) else (tattinglaw23_CanonSides.j0 k l0 l1 l2 (decide ((l2.length : Int) > 30))))) else (some false)) = some r := H
 have A4 := Aside0.mk A40
 clear A40
 by_cases c5 : t279 = true
 ·subst c5
  have H1 : (if (l0.length : Int) > 30 then (tattinglaw23_CanonSides.j0 k l0 l1 l2 true) else (if (l1.length : Int) > 30 then (tattinglaw23_CanonSides.j0 k l0 l1 l2 true) else (tattinglaw23_CanonSides.j0 k l0 l1 l2 (decide ((l2.length : Int) > 30))))) = some r := by rw [if_pos rfl] at H; exact H
  clear H
  have H := H1
  clear H1
  have HC6 := Aside0.mk H
  clear H
  go_enter Try.func5, Try.ntmps5
  go_upto_region 3 with (first | ((first | (with_reducible refine gate_callee (f := 11) rfl ?_); refine goesL_ (some 17) rfl rfl Try.func11 (by kernel_rfl) rfl #[] rfl (by (try simp only [List.map_toArray, List.map_cons, List.map_nil]); first | done | rfl | (simp only [List.length_drop, List.length_take]; rfl)) ?_ | go_at_call 11); (with_reducible refine (tattinglaw23_awake.calls k  true _ A4.out rfl).mono ?_); rintro e w7 ⟨rfl, hb⟩; (try refine ⟨_, rfl, ?_⟩); have n0_ := Aside0.mk (below_step (by repeat (first | (with_reducible first | exact HB.out | apply below_alloc | apply pw_below_drewN | apply below_drew1) | exact HB.out)) hb); clear HB; have HB := n0_; clear n0_; (try clear hb); (try clear hb2); (try clear hk); (try clear hi)))
  (try simp only [Act.put, sA,sB,sC])
  go_cut [31] (fun v31 wc => ∃ (kq : Nat) (x31_5 : Bool), v31 = .bool x31_5 ∧ Aside0 (tattinglaw23_CanonSides.j0 kq l0 l1 l2 x31_5 = some r) ∧ Aside0 (kq ≤ k) ∧ Aside0 (Below w.heap.size w wc))
  case first =>
   have H := HC6.out
   clear HC6
   by_cases c8 : (l0.length : Int) > 30
   ·rw [if_pos c8] at H
    have c8b0 : decide (30 < (l0.length : Int)) = true := decide_eq_true c8
    have c8b1 : decide (30 < l0.length) = true := decide_eq_true (by omega)
    clear c8
    (first | rw [c8b0] | (simp only [i64_w, i32_w]; rw [c8b0]) | skip)
    have H' := Aside0.mk H
    clear H
    go_wp2
    go_meet
    case rel => exact ⟨_, (true), (by first | rfl | (simp; done) | (simp [*]; done)), H', ⟨by first | omega | exact Nat.le_refl _⟩, ⟨by repeat (first | (with_reducible first | exact HB.out | apply below_alloc | apply pw_below_drewN | apply below_drew1) | exact HB.out)⟩⟩
   ·rw [if_neg c8] at H
    have c8b0 : decide (30 < (l0.length : Int)) = false := decide_eq_false c8
    have c8b1 : decide (30 < l0.length) = false := decide_eq_false (by omega)
    clear c8
    (first | rw [c8b0] | (simp only [i64_w, i32_w]; rw [c8b0]) | skip)
    by_cases c9 : (l1.length : Int) > 30
    ·rw [if_pos c9] at H
     have c9b0 : decide (30 < (l1.length : Int)) = true := decide_eq_true c9
     have c9b1 : decide (30 < l1.length) = true := decide_eq_true (by omega)
     clear c9
     have H' := Aside0.mk H
     clear H
     go_wp2
     go_meet
     case rel => exact ⟨_, (true), (by first | rfl | (simp; done) | (simp [*]; done)), H', ⟨by first | omega | exact Nat.le_refl _⟩, ⟨by repeat (first | (with_reducible first | exact HB.out | apply below_alloc | apply pw_below_drewN | apply below_drew1) | exact HB.out)⟩⟩
    ·rw [if_neg c9] at H
     have c9b0 : decide (30 < (l1.length : Int)) = false := decide_eq_false c9
     have c9b1 : decide (30 < l1.length) = false := decide_eq_false (by omega)
     clear c9
     have H' := Aside0.mk H
     clear H
     go_wp2
     go_meet
     case rel => exact ⟨_, (decide ((l2.length : Int) > 30)), (by first | rfl | (simp; done) | (simp [*]; done)), H', ⟨by first | omega | exact Nat.le_refl _⟩, ⟨by repeat (first | (with_reducible first | exact HB.out | apply below_alloc | apply pw_below_drewN | apply below_drew1) | exact HB.out)⟩⟩
  case rest =>
   clear HC6
   try clear c1
   try clear c2
   try clear p2
   try clear c5
   try clear c8
   try clear c8b0
   try clear c8b1
   try clear c9
   try clear c9b0
   try clear c9b1
   obtain ⟨kq, x31_5, rfl, HA, HJ5, HB⟩ := hcut
   cases kq with
   | zero => exact absurd HA.out (by simp [tattinglaw23_CanonSides.j0])
   | succ kj5 =>
    have H := HA.out
    clear HA
    simp only [tattinglaw23_CanonSides.j0] at H
    by_cases c10 : x31_5 = true
    ·subst c10
     have H1 : (some true) = some r := by rw [if_pos rfl] at H; exact H
     clear H
     have H := H1
     clear H1
     obtain rfl := Option.some.inj H
     go_wp2
     go_ret
     exact ⟨by first | rfl | (simp [errW_none, errW_some] <;> rfl) | (simp [*, errW_none, errW_some] <;> rfl), by repeat (first | (with_reducible first | exact HB.out | apply below_alloc | apply pw_below_drewN | apply below_drew1) | exact HB.out)⟩
    ·replace c10 := Bool.eq_false_iff.mpr c10
     subst c10
     have H1 : ((tattingref1_Few.f kj5 l0 3).bind fun t280 => ((tattingref1_Few.f kj5 l1 3).bind fun t283 => ((canon_Left.f kj5 t280 t283 l2).bind fun bt286 => ((tattingref7_Left.f kj5 t280 t283 l2).bind fun bt290 => ((canon_Top.f kj5 t280 t283 l2).bind fun bt294 => ((tattingref7_Top.f kj5 t280 t283 l2).bind fun bt298 => (if bt286.2 = bt290.2 then (if bt294.2 = bt298.2 then ((tattingref1_SamePairs.f kj5 bt286.1 bt290.1).bind fun t302 => (if t302 = true then ((tattingref1_SamePairs.f kj5 bt294.1 bt298.1).bind fun t303 => (some t303)) else (some false))) else (some false)) else (some false)))))))) = some r := by rw [if_neg (show ¬ (false = true) by decide)] at H; exact H
     clear H
     have H := H1
     clear H1
     replace H := Option.bind_eq_some_iff.mp H
     obtain ⟨t280, A110, H⟩ := H
     replace H : ((tattingref1_Few.f kj5 l1 3).bind fun t283 => ((canon_Left.f kj5 t280 t283 l2).bind fun bt286 => ((tattingref7_Left.f kj5 t280 t283 l2).bind fun bt290 => ((canon_Top.f kj5 t280 t283 l2).bind fun bt294 => ((tattingref7_Top.f kj5 t280 t283 l2).bind fun bt298 => (if bt286.2 = bt290.2 then (if bt294.2 = bt298.2 then ((tattingref1_SamePairs.f kj5 bt286.1 bt290.1).bind fun t302 => (if t302 = true then ((tattingref1_SamePairs.f kj5 bt294.1 bt298.1).bind fun t303 => (some t303)) else (some false))) else (some false)) else (some false))))))) = some r := H
     have A11 := Aside0.mk A110
     clear A110
     replace H := Option.bind_eq_some_iff.mp H
     obtain ⟨t283, A120, H⟩ := H
     replace H : ((canon_Left.f kj5 t280 t283 l2).bind fun bt286 => ((tattingref7_Left.f kj5 t280 t283 l2).bind fun bt290 => ((canon_Top.f kj5 t280 t283 l2).bind fun bt294 => ((tattingref7_Top.f kj5 t280 t283 l2).bind fun bt298 => (if bt286.2 = bt290.2 then (if bt294.2 = bt298.2 then ((tattingref1_SamePairs.f kj5 bt286.1 bt290.1).bind fun t302 => (if t302 = true then ((tattingref1_SamePairs.f kj5 bt294.1 bt298.1).bind fun t303 => (some t303)) else (some false))) else (some false)) else (some false)))))) = some r := H
     have A12 := Aside0.mk A120
     clear A120
     replace H := Option.bind_eq_some_iff.mp H
     obtain ⟨⟨t286, t287⟩, A130, H⟩ := H
     replace H : ((tattingref7_Left.f kj5 t280 t283 l2).bind fun bt290 => ((canon_Top.f kj5 t280 t283 l2).bind fun bt294 => ((tattingref7_Top.f kj5 t280 t283 l2).bind fun bt298 => (if t287 = bt290.2 then (if bt294.2 = bt298.2 then ((tattingref1_SamePairs.f kj5 t286 bt290.1).bind fun t302 => (if t302 = true then ((tattingref1_SamePairs.f kj5 bt294.1 bt298.1).bind fun t303 => (some t303)) else (some false))) else (some false)) else (some false))))) = some r := H
     have A13 := Aside0.mk A130
     clear A130
     replace H := Option.bind_eq_some_iff.mp H
     obtain ⟨⟨t290, t291⟩, A140, H⟩ := H
     replace H : ((canon_Top.f kj5 t280 t283 l2).bind fun bt294 => ((tattingref7_Top.f kj5 t280 t283 l2).bind fun bt298 => (if t287 = t291 then (if bt294.2 = bt298.2 then ((tattingref1_SamePairs.f kj5 t286 t290).bind fun t302 => (if t302 = true then ((tattingref1_SamePairs.f kj5 bt294.1 bt298.1).bind fun t303 => (some t303)) else (some false))) else (some false)) else (some false)))) = some r := H
     have A14 := Aside0.mk A140
     clear A140
     replace H := Option.bind_eq_some_iff.mp H
     obtain ⟨⟨t294, t295⟩, A150, H⟩ := H
     replace H : ((tattingref7_Top.f kj5 t280 t283 l2).bind fun bt298 => (if t287 = t291 then (if t295 = bt298.2 then ((tattingref1_SamePairs.f kj5 t286 t290).bind fun t302 => (if t302 = true then ((tattingref1_SamePairs.f kj5 t294 bt298.1).bind fun t303 => (some t303)) else (some false))) else (some false)) else (some false))) = some r := H
     have A15 := Aside0.mk A150
     clear A150
     replace H := Option.bind_eq_some_iff.mp H
     obtain ⟨⟨t298, t299⟩, A160, H⟩ := H
     replace H : (if t287 = t291 then (if t295 = t299 then ((tattingref1_SamePairs.f kj5 t286 t290).bind fun t302 => (if t302 = true then ((tattingref1_SamePairs.f kj5 t294 t298).bind fun t303 => (some t303)) else (some false))) else (some false)) else (some false)) = some r := H
     have A16 := Aside0.mk A160
     clear A160
     by_cases c17 : t287 = t291
     ·rw [if_pos c17] at H
      have c17b0 : (t287 == t291) = true := beq_iff_eq.mpr c17
      have c17b1 : (t287 != t291) = false := bne_eq_false_iff_eq.mpr c17
      clear c17
      by_cases c18 : t295 = t299
      ·rw [if_pos c18] at H
       have c18b0 : (t295 == t299) = true := beq_iff_eq.mpr c18
       have c18b1 : (t295 != t299) = false := bne_eq_false_iff_eq.mpr c18
       clear c18
       replace H := Option.bind_eq_some_iff.mp H
       obtain ⟨t302, A190, H⟩ := H
       replace H : (if t302 = true then ((tattingref1_SamePairs.f kj5 t294 t298).bind fun t303 => (some t303)) else (some false)) = some r := H
       have A19 := Aside0.mk A190
       clear A190
       by_cases c20 : t302 = true
       ·subst c20
        have H1 : ((tattingref1_SamePairs.f kj5 t294 t298).bind fun t303 => (some t303)) = some r := by rw [if_pos rfl] at H; exact H
        clear H
        have H := H1
        clear H1
        replace H := Option.bind_eq_some_iff.mp H
        obtain ⟨t303, A210, H⟩ := H
        replace H : (some t303) = some r := H
        have A21 := Aside0.mk A210
        clear A210
        obtain rfl := Option.some.inj H
        go_wp2_with (first | ((first | (with_reducible refine gate_callee (f := 13) rfl ?_); refine goesL_ (some 33) rfl rfl Try.func13 (by kernel_rfl) rfl #[.slice A0 l0.length c0, .int .i64 3] rfl (by (try simp only [List.map_toArray, List.map_cons, List.map_nil]); first | done | rfl | (simp only [List.length_drop, List.length_take]; rfl)) ?_ | go_at_call 13); (with_reducible refine (tattingref1_Few.calls kj5 _ _ l0 3 t280 _ ?side1 ?side2 A11.out).mono ?_); (case side1 => repeat (first | exact (Kd.C_below HR0.out HB.out) | (with_reducible refine Kd.C_alloc ?_ _) | (with_reducible refine Kd.C_drewN ?_ _) | (with_reducible refine Kd.C_drew ?_))); (case side2 => exact HC0.out); rintro e w22 ⟨v281, rfl, ho0, hb⟩; (try refine ⟨_, rfl, ?_⟩); have n0_ := Aside0.mk (Kd.R_lower ho0 (below_size (by repeat (first | (with_reducible first | exact HB.out | apply below_alloc | apply pw_below_drewN | apply below_drew1) | exact HB.out)))); have n1_ := Aside0.mk (below_step (by repeat (first | (with_reducible first | exact HB.out | apply below_alloc | apply pw_below_drewN | apply below_drew1) | exact HB.out)) hb); clear HB; have HO282 := n0_; have HB := n1_; clear n0_ n1_; (try clear hb); (try clear hb2); (try clear hk); (try clear hi); (try clear ho0)) | ((first | (with_reducible refine gate_callee (f := 13) rfl ?_); refine goesL_ (some 35) rfl rfl Try.func13 (by kernel_rfl) rfl #[.slice A1 l1.length c1, .int .i64 3] rfl (by (try simp only [List.map_toArray, List.map_cons, List.map_nil]); first | done | rfl | (simp only [List.length_drop, List.length_take]; rfl)) ?_ | go_at_call 13); (with_reducible refine (tattingref1_Few.calls kj5 _ _ l1 3 t283 _ ?side1 ?side2 A12.out).mono ?_); (case side1 => repeat (first | exact (Kd.C_below HR1.out HB.out) | (with_reducible refine Kd.C_alloc ?_ _) | (with_reducible refine Kd.C_drewN ?_ _) | (with_reducible refine Kd.C_drew ?_))); (case side2 => exact HC1.out); rintro e w23 ⟨v284, rfl, ho0, hb⟩; (try refine ⟨_, rfl, ?_⟩); have n0_ := Aside0.mk (Kd.R_elder' (by (with_reducible repeat (first | apply Kd.R_alloc | apply Kd.R_drewN | apply Kd.R_drew)); exact HO282.out) (Kd.R_base ho0) hb); have n1_ := Aside0.mk (Kd.R_lower (Kd.R_new' ho0 (Kd.R_lt (by (with_reducible repeat (first | apply Kd.R_alloc | apply Kd.R_drewN | apply Kd.R_drew)); exact HO282.out))) (below_size (by repeat (first | (with_reducible first | exact HB.out | apply below_alloc | apply pw_below_drewN | apply below_drew1) | exact HB.out)))); have n2_ := Aside0.mk (below_step (by repeat (first | (with_reducible first | exact HB.out | apply below_alloc | apply pw_below_drewN | apply below_drew1) | exact HB.out)) hb); clear HO282; clear HB; have HO282 := n0_; have HO285 := n1_; have HB := n2_; clear n0_ n1_ n2_; (try clear hb); (try clear hb2); (try clear hk); (try clear hi); (try clear ho0); obtain ⟨Ao24, co24, eo24⟩ := Kd.R_slice HO282.out; subst eo24; obtain ⟨Ao25, co25, eo25⟩ := Kd.R_slice HO285.out; subst eo25) | ((first | (with_reducible refine gate_callee (f := 9) rfl ?_); refine goesL_ (some 40) rfl rfl Try.func9 (by kernel_rfl) rfl #[.slice Ao24 t280.length co24, .slice Ao25 t283.length co25, .slice A2 l2.length c2] rfl (by (try simp only [List.map_toArray, List.map_cons, List.map_nil]); first | done | rfl | (simp only [List.length_drop, List.length_take]; rfl)) ?_ | go_at_call 9); (with_reducible refine (canon_Left.calls kj5 _ _ t280 _ _ t283 _ _ l2 t286 t287 _ ?side1 ?side2 ?side3 ?side4 ?side5 ?side6 A13.out).mono ?_); (case side1 => repeat (first | exact (Kd.R_reads' HO282.out).2.2 | (with_reducible refine Kd.C_alloc ?_ _) | (with_reducible refine Kd.C_drewN ?_ _) | (with_reducible refine Kd.C_drew ?_))); (case side2 => exact (Kd.R_reads' HO282.out).2.1); (case side3 => repeat (first | exact (Kd.R_reads' HO285.out).2.2 | (with_reducible refine Kd.C_alloc ?_ _) | (with_reducible refine Kd.C_drewN ?_ _) | (with_reducible refine Kd.C_drew ?_))); (case side4 => exact (Kd.R_reads' HO285.out).2.1); (case side5 => repeat (first | exact (Kd.C_below HR2.out HB.out) | (with_reducible refine Kd.C_alloc ?_ _) | (with_reducible refine Kd.C_drewN ?_ _) | (with_reducible refine Kd.C_drew ?_))); (case side6 => exact HC2.out); rintro e w26 ⟨v288, rfl, ho0, hb⟩; (try refine ⟨_, rfl, ?_⟩); have n0_ := Aside0.mk (Kd.R_below (by (with_reducible repeat (first | apply Kd.R_alloc | apply Kd.R_drewN | apply Kd.R_drew)); exact HO282.out) hb); have n1_ := Aside0.mk (Kd.R_below (by (with_reducible repeat (first | apply Kd.R_alloc | apply Kd.R_drewN | apply Kd.R_drew)); exact HO285.out) hb); have n2_ := Aside0.mk (Kd.R_lower ho0 (below_size (by repeat (first | (with_reducible first | exact HB.out | apply below_alloc | apply pw_below_drewN | apply below_drew1) | exact HB.out)))); have n3_ := Aside0.mk (below_step (by repeat (first | (with_reducible first | exact HB.out | apply below_alloc | apply pw_below_drewN | apply below_drew1) | exact HB.out)) hb); clear HO282; clear HO285; clear HB; have HO282 := n0_; have HO285 := n1_; have HO289 := n2_; have HB := n3_; clear n0_ n1_ n2_ n3_; (try clear hb); (try clear hb2); (try clear hk); (try clear hi); (try clear ho0)) | ((first | (with_reducible refine gate_callee (f := 15) rfl ?_); refine goesL_ (some 47) rfl rfl Try.func15 (by kernel_rfl) rfl #[.slice Ao24 t280.length co24, .slice Ao25 t283.length co25, .slice A2 l2.length c2] rfl (by (try simp only [List.map_toArray, List.map_cons, List.map_nil]); first | done | rfl | (simp only [List.length_drop, List.length_take]; rfl)) ?_ | go_at_call 15); (with_reducible refine (tattingref7_Left.calls kj5 _ _ t280 _ _ t283 _ _ l2 t290 t291 _ ?side1 ?side2 ?side3 ?side4 ?side5 ?side6 A14.out).mono ?_); (case side1 => repeat (first | exact (Kd.R_reads' HO282.out).2.2 | (with_reducible refine Kd.C_alloc ?_ _) | (with_reducible refine Kd.C_drewN ?_ _) | (with_reducible refine Kd.C_drew ?_))); (case side2 => exact (Kd.R_reads' HO282.out).2.1); (case side3 => repeat (first | exact (Kd.R_reads' HO285.out).2.2 | (with_reducible refine Kd.C_alloc ?_ _) | (with_reducible refine Kd.C_drewN ?_ _) | (with_reducible refine Kd.C_drew ?_))); (case side4 => exact (Kd.R_reads' HO285.out).2.1); (case side5 => repeat (first | exact (Kd.C_below HR2.out HB.out) | (with_reducible refine Kd.C_alloc ?_ _) | (with_reducible refine Kd.C_drewN ?_ _) | (with_reducible refine Kd.C_drew ?_))); (case side6 => exact HC2.out); rintro e w27 ⟨v292, rfl, ho0, hb⟩; (try refine ⟨_, rfl, ?_⟩); have n0_ := Aside0.mk (Kd.R_below (by (with_reducible repeat (first | apply Kd.R_alloc | apply Kd.R_drewN | apply Kd.R_drew)); exact HO282.out) hb); have n1_ := Aside0.mk (Kd.R_below (by (with_reducible repeat (first | apply Kd.R_alloc | apply Kd.R_drewN | apply Kd.R_drew)); exact HO285.out) hb); have n2_ := Aside0.mk (Kd.R_elder' (by (with_reducible repeat (first | apply Kd.R_alloc | apply Kd.R_drewN | apply Kd.R_drew)); exact HO289.out) (Kd.R_base ho0) hb); have n3_ := Aside0.mk (Kd.R_lower (Kd.R_new' ho0 (Kd.R_lt (by (with_reducible repeat (first | apply Kd.R_alloc | apply Kd.R_drewN | apply Kd.R_drew)); exact HO289.out))) (below_size (by repeat (first | (with_reducible first | exact HB.out | apply below_alloc | apply pw_below_drewN | apply below_drew1) | exact HB.out)))); have n4_ := Aside0.mk (below_step (by repeat (first | (with_reducible first | exact HB.out | apply below_alloc | apply pw_below_drewN | apply below_drew1) | exact HB.out)) hb); clear HO282; clear HO285; clear HO289; clear HB; have HO282 := n0_; have HO285 := n1_; have HO289 := n2_; have HO293 := n3_; have HB := n4_; clear n0_ n1_ n2_ n3_ n4_; (try clear hb); (try clear hb2); (try clear hk); (try clear hi); (try clear ho0)) | ((first | (with_reducible refine gate_callee (f := 10) rfl ?_); refine goesL_ (some 54) rfl rfl Try.func10 (by kernel_rfl) rfl #[.slice Ao24 t280.length co24, .slice Ao25 t283.length co25, .slice A2 l2.length c2] rfl (by (try simp only [List.map_toArray, List.map_cons, List.map_nil]); first | done | rfl | (simp only [List.length_drop, List.length_take]; rfl)) ?_ | go_at_call 10); (with_reducible refine (canon_Top.calls kj5 _ _ t280 _ _ t283 _ _ l2 t294 t295 _ ?side1 ?side2 ?side3 ?side4 ?side5 ?side6 A15.out).mono ?_); (case side1 => repeat (first | exact (Kd.R_reads' HO282.out).2.2 | (with_reducible refine Kd.C_alloc ?_ _) | (with_reducible refine Kd.C_drewN ?_ _) | (with_reducible refine Kd.C_drew ?_))); (case side2 => exact (Kd.R_reads' HO282.out).2.1); (case side3 => repeat (first | exact (Kd.R_reads' HO285.out).2.2 | (with_reducible refine Kd.C_alloc ?_ _) | (with_reducible refine Kd.C_drewN ?_ _) | (with_reducible refine Kd.C_drew ?_))); (case side4 => exact (Kd.R_reads' HO285.out).2.1); (case side5 => repeat (first | exact (Kd.C_below HR2.out HB.out) | (with_reducible refine Kd.C_alloc ?_ _) | (with_reducible refine Kd.C_drewN ?_ _) | (with_reducible refine Kd.C_drew ?_))); (case side6 => exact HC2.out); rintro e w28 ⟨v296, rfl, ho0, hb⟩; (try refine ⟨_, rfl, ?_⟩); have n0_ := Aside0.mk (Kd.R_below (by (with_reducible repeat (first | apply Kd.R_alloc | apply Kd.R_drewN | apply Kd.R_drew)); exact HO282.out) hb); have n1_ := Aside0.mk (Kd.R_below (by (with_reducible repeat (first | apply Kd.R_alloc | apply Kd.R_drewN | apply Kd.R_drew)); exact HO285.out) hb); have n2_ := Aside0.mk (Kd.R_elder' (by (with_reducible repeat (first | apply Kd.R_alloc | apply Kd.R_drewN | apply Kd.R_drew)); exact HO289.out) (Kd.R_base ho0) hb); have n3_ := Aside0.mk (Kd.R_elder' (by (with_reducible repeat (first | apply Kd.R_alloc | apply Kd.R_drewN | apply Kd.R_drew)); exact HO293.out) (Kd.R_base ho0) hb); have n4_ := Aside0.mk (Kd.R_lower (Kd.R_new' (Kd.R_new' ho0 (Kd.R_lt (by (with_reducible repeat (first | apply Kd.R_alloc | apply Kd.R_drewN | apply Kd.R_drew)); exact HO289.out))) (Kd.R_lt (by (with_reducible repeat (first | apply Kd.R_alloc | apply Kd.R_drewN | apply Kd.R_drew)); exact HO293.out))) (below_size (by repeat (first | (with_reducible first | exact HB.out | apply below_alloc | apply pw_below_drewN | apply below_drew1) | exact HB.out)))); have n5_ := Aside0.mk (below_step (by repeat (first | (with_reducible first | exact HB.out | apply below_alloc | apply pw_below_drewN | apply below_drew1) | exact HB.out)) hb); clear HO282; clear HO285; clear HO289; clear HO293; clear HB; have HO282 := n0_; have HO285 := n1_; have HO289 := n2_; have HO293 := n3_; have HO297 := n4_; have HB := n5_; clear n0_ n1_ n2_ n3_ n4_ n5_; (try clear hb); (try clear hb2); (try clear hk); (try clear hi); (try clear ho0)) | ((first | (with_reducible refine gate_callee (f := 16) rfl ?_); refine goesL_ (some 61) rfl rfl Try.func16 (by kernel_rfl) rfl #[.slice Ao24 t280.length co24, .slice Ao25 t283.length co25, .slice A2 l2.length c2] rfl (by (try simp only [List.map_toArray, List.map_cons, List.map_nil]); first | done | rfl | (simp only [List.length_drop, List.length_take]; rfl)) ?_ | go_at_call 16); (with_reducible refine (tattingref7_Top.calls kj5 _ _ t280 _ _ t283 _ _ l2 t298 t299 _ ?side1 ?side2 ?side3 ?side4 ?side5 ?side6 A16.out).mono ?_); (case side1 => repeat (first | exact (Kd.R_reads' HO282.out).2.2 | (with_reducible refine Kd.C_alloc ?_ _) | (with_reducible refine Kd.C_drewN ?_ _) | (with_reducible refine Kd.C_drew ?_))); (case side2 => exact (Kd.R_reads' HO282.out).2.1); (case side3 => repeat (first | exact (Kd.R_reads' HO285.out).2.2 | (with_reducible refine Kd.C_alloc ?_ _) | (with_reducible refine Kd.C_drewN ?_ _) | (with_reducible refine Kd.C_drew ?_))); (case side4 => exact (Kd.R_reads' HO285.out).2.1); (case side5 => repeat (first | exact (Kd.C_below HR2.out HB.out) | (with_reducible refine Kd.C_alloc ?_ _) | (with_reducible refine Kd.C_drewN ?_ _) | (with_reducible refine Kd.C_drew ?_))); (case side6 => exact HC2.out); rintro e w29 ⟨v300, rfl, ho0, hb⟩; (try refine ⟨_, rfl, ?_⟩); have n0_ := Aside0.mk (Kd.R_below (by (with_reducible repeat (first | apply Kd.R_alloc | apply Kd.R_drewN | apply Kd.R_drew)); exact HO282.out) hb); have n1_ := Aside0.mk (Kd.R_below (by (with_reducible repeat (first | apply Kd.R_alloc | apply Kd.R_drewN | apply Kd.R_drew)); exact HO285.out) hb); have n2_ := Aside0.mk (Kd.R_elder' (by (with_reducible repeat (first | apply Kd.R_alloc | apply Kd.R_drewN | apply Kd.R_drew)); exact HO289.out) (Kd.R_base ho0) hb); have n3_ := Aside0.mk (Kd.R_elder' (by (with_reducible repeat (first | apply Kd.R_alloc | apply Kd.R_drewN | apply Kd.R_drew)); exact HO293.out) (Kd.R_base ho0) hb); have n4_ := Aside0.mk (Kd.R_elder' (by (with_reducible repeat (first | apply Kd.R_alloc | apply Kd.R_drewN | apply Kd.R_drew)); exact HO297.out) (Kd.R_base ho0) hb); have n5_ := Aside0.mk (Kd.R_lower (Kd.R_new' (Kd.R_new' (Kd.R_new' ho0 (Kd.R_lt (by (with_reducible repeat (first | apply Kd.R_alloc | apply Kd.R_drewN | apply Kd.R_drew)); exact HO289.out))) (Kd.R_lt (by (with_reducible repeat (first | apply Kd.R_alloc | apply Kd.R_drewN | apply Kd.R_drew)); exact HO293.out))) (Kd.R_lt (by (with_reducible repeat (first | apply Kd.R_alloc | apply Kd.R_drewN | apply Kd.R_drew)); exact HO297.out))) (below_size (by repeat (first | (with_reducible first | exact HB.out | apply below_alloc | apply pw_below_drewN | apply below_drew1) | exact HB.out)))); have n6_ := Aside0.mk (below_step (by repeat (first | (with_reducible first | exact HB.out | apply below_alloc | apply pw_below_drewN | apply below_drew1) | exact HB.out)) hb); clear HO282; clear HO285; clear HO289; clear HO293; clear HO297; clear HB; have HO282 := n0_; have HO285 := n1_; have HO289 := n2_; have HO293 := n3_; have HO297 := n4_; have HO301 := n5_; have HB := n6_; clear n0_ n1_ n2_ n3_ n4_ n5_ n6_; (try clear hb); (try clear hb2); (try clear hk); (try clear hi); (try clear ho0); obtain ⟨Ao30, co30, eo30⟩ := Kd.R_slice HO289.out; subst eo30; obtain ⟨Ao31, co31, eo31⟩ := Kd.R_slice HO293.out; subst eo31) | (go_at_call 12; (with_reducible refine (tattingref1_SamePairs.calls kj5 _ _ t286 _ _ t290 true _ ?side1 ?side2 ?side3 ?side4 A19.out).mono ?_); (case side1 => repeat (first | exact (Kd.R_reads' HO289.out).2.2 | (with_reducible refine Kd.C_alloc ?_ _) | (with_reducible refine Kd.C_drewN ?_ _) | (with_reducible refine Kd.C_drew ?_))); (case side2 => exact (Kd.R_reads' HO289.out).2.1); (case side3 => repeat (first | exact (Kd.R_reads' HO293.out).2.2 | (with_reducible refine Kd.C_alloc ?_ _) | (with_reducible refine Kd.C_drewN ?_ _) | (with_reducible refine Kd.C_drew ?_))); (case side4 => exact (Kd.R_reads' HO293.out).2.1); rintro e w' ⟨rfl, ⟨nd, rfl⟩⟩; obtain ⟨Ao32, co32, eo32⟩ := Kd.R_slice HO297.out; subst eo32; obtain ⟨Ao33, co33, eo33⟩ := Kd.R_slice HO301.out; subst eo33) | (go_at_call 12; (with_reducible refine (tattingref1_SamePairs.calls kj5 _ _ t294 _ _ t298 t303 _ ?side1 ?side2 ?side3 ?side4 A21.out).mono ?_); (case side1 => repeat (first | exact (Kd.R_reads' HO297.out).2.2 | (with_reducible refine Kd.C_alloc ?_ _) | (with_reducible refine Kd.C_drewN ?_ _) | (with_reducible refine Kd.C_drew ?_))); (case side2 => exact (Kd.R_reads' HO297.out).2.1); (case side3 => repeat (first | exact (Kd.R_reads' HO301.out).2.2 | (with_reducible refine Kd.C_alloc ?_ _) | (with_reducible refine Kd.C_drewN ?_ _) | (with_reducible refine Kd.C_drew ?_))); (case side4 => exact (Kd.R_reads' HO301.out).2.1); rintro e w' ⟨rfl, ⟨nd, rfl⟩⟩))
        go_ret
        exact ⟨by first | rfl | (simp [errW_none, errW_some] <;> rfl) | (simp [*, errW_none, errW_some] <;> rfl), by repeat (first | (with_reducible first | exact HB.out | apply below_alloc | apply pw_below_drewN | apply below_drew1) | exact HB.out)⟩
       ·replace c20 := Bool.eq_false_iff.mpr c20
        subst c20
        have H1 : (some false) = some r := by rw [if_neg (show ¬ (false = true) by decide)] at H; exact H
        clear H
        have H := H1
        clear H1
        exact absurd (Option.some.inj H) (by rw [hr_]; decide)
      ·rw [if_neg c18] at H
       have c18b0 : (t295 == t299) = false := beq_eq_false_iff_ne.mpr c18
       have c18b1 : (t295 != t299) = true := bne_iff_ne.mpr c18
       exact absurd (Option.some.inj H) (by rw [hr_]; decide)
     ·rw [if_neg c17] at H
      have c17b0 : (t287 == t291) = false := beq_eq_false_iff_ne.mpr c17
      have c17b1 : (t287 != t291) = true := bne_iff_ne.mpr c17
      exact absurd (Option.some.inj H) (by rw [hr_]; decide)
 ·replace c5 := Bool.eq_false_iff.mpr c5
  subst c5
  have H1 : (some false) = some r := by rw [if_neg (show ¬ (false = true) by decide)] at H; exact H
  clear H
  have H := H1
  clear H1
  exact absurd (Option.some.inj H) (by rw [hr_]; decide)

/-- THE ONE PURE STATEMENT of tattinglaw23_CanonSides: yours. -/
def tattinglaw23_CanonSides.Pure : Prop := ∀ (l0 : List Int) (l1 : List Int) (l2 : List (S28)), l0.length ≤ maxLen → l0.length * 8 ≤ 140737488351232 → (∀ x ∈ l0, (Lit.int .i64 x).wf = true) → l1.length ≤ maxLen → l1.length * 8 ≤ 140737488351232 → (∀ x ∈ l1, (Lit.int .i64 x).wf = true) → l2.length ≤ maxLen → (∀ x ∈ l2, (Lit.int .i64 x.f0).wf = true ∧ (Lit.int .i64 x.f1).wf = true) → ∃ k, tattinglaw23_CanonSides.f k l0 l1 l2 = some true
theorem tattinglaw23_CanonSides.walk (P : tattinglaw23_CanonSides.Pure) (a0 : Option Addr) (len0 cap0 : Nat) (z0 : List Int) (a1 : Option Addr) (len1 cap1 : Nat) (z1 : List Int) (a2 : Option Addr) (cap2 : Nat) (l2 : List (S28)) (w : World) (w0 : (a0 = none ∧ len0 = 0 ∧ cap0 = 0 ∧ z0 = []) ∨ ∃ x, a0 = some x ∧ len0 ≤ cap0 ∧ cap0 ≤ maxLen ∧ z0.length = cap0 ∧ (∀ i, i < z0.length → w.cell? (x.add i) = some (.int .i64 (z0.getD i 0))) ∧ ∀ n ∈ z0, (Lit.int .i64 n).wf = true) (y0 : len0 * 8 ≤ 140737488351232) (w1 : (a1 = none ∧ len1 = 0 ∧ cap1 = 0 ∧ z1 = []) ∨ ∃ x, a1 = some x ∧ len1 ≤ cap1 ∧ cap1 ≤ maxLen ∧ z1.length = cap1 ∧ (∀ i, i < z1.length → w.cell? (x.add i) = some (.int .i64 (z1.getD i 0))) ∧ ∀ n ∈ z1, (Lit.int .i64 n).wf = true) (y1 : len1 * 8 ≤ 140737488351232) (w2 : Kd.C k28 w a2 l2.length l2 ∧ l2.length ≤ cap2 ∧ l2.length ≤ maxLen ∧ (∀ x ∈ l2, (Lit.int .i64 x.f0).wf = true ∧ (Lit.int .i64 x.f1).wf = true)) :
  Calls Try.prog 5 #[.slice a0 len0 cap0, .slice a1 len1 cap1, .slice a2 l2.length cap2] w fun e w' => e = .returned (.bool true) ∧ Below w.heap.size w w' := by
 obtain ⟨l0, rfl, hr0, hm0, hw0, hc0⟩ := ReadsInt.ofRowC w0
 obtain ⟨l1, rfl, hr1, hm1, hw1, hc1⟩ := ReadsInt.ofRowC w1
 obtain ⟨hr2, hc2, hm2, hw2⟩ := w2
 obtain ⟨k, h⟩ := P l0 l1 l2 hm0 y0 hw0 hm1 y1 hw1 hm2 hw2
 refine (tattinglaw23_CanonSides.calls k _ _ l0 _ _ l1 _ _ l2 true w (Kd.C_of_reads (d := (0 : Int)) (h1 := fun _ => rfl) hr0) hc0 (Kd.C_of_reads (d := (0 : Int)) (h1 := fun _ => rfl) hr1) hc1 hr2 hc2 h rfl).mono ?_
 rintro e w' ⟨rfl, hd⟩
 exact ⟨rfl, hd⟩

end Go.Proofs.Ytdegajidkboknaa.PCanonSides
