/- What the given program's functions come to, each a Lean function and the walk that shows it: no condition beside those that each theorem names. -/
import Derived.Test.YtfmkiankjibkfaaPTokEndsx0
import Derived.Test.YtfmkiankjibkfaaPTokEndsx1
namespace Go.Proofs.Ytfmkiankjibkfaa.PTokEnds
open Go.RowKit Go.Proofs.YtfmkiankjibkfaaW.PrintWords Go.Proofs.YtfmkiankjibkfaaW.PrintLast Go.Proofs.YtfmkiankjibkfaaW.PrintMore
attribute [local go_sem] max2_int min2_int max_two min_two max_three min_three max_four min_four   -- for this text's walks alone
set_option linter.unusedVariables false
set_option linter.unusedSimpArgs false

/-! ### tattinglaw1_TokEnds: function 5 -/
def tattinglaw1_TokEnds.l0 : Nat → List (List Int) → List Int → List Int → Int → Int → Option (Bool)
 | 0, _, _, _, _, _ => none
 | k + 1, x0, x3, x4, x5, x6 => if x6 < (x0.length : Int) then (if 0 ≤ x6 then (if x6 < (x3.length : Int) then (if (wrap64 ((rd x3 x6) - x5)) = ((rd_L1 x0 x6).length : Int) then (if (rd x3 x6) > (x4.length : Int) then (some false) else (if 0 ≤ x5 then (if x5 ≤ (rd x3 x6) then (if (rd x3 x6) ≤ (x4.length : Int) then (if (strOfNums ((x4.take ((rd x3 x6) : Int).toNat).drop (x5 : Int).toNat)).toList = (strOfNums (rd_L1 x0 x6)).toList then (tattinglaw1_TokEnds.l0 k x0 x3 x4 (rd x3 x6) (wrap64 (x6 + 1))) else (some false)) else (none)) else (none)) else (none))) else (some false)) else (none)) else (none)) else (some (x5 == (x4.length : Int)))
def tattinglaw1_TokEnds.f (k : Nat) (l0 : List (List Int)) : Option (Bool) := (tattinglaw1_awake.f k).bind fun t178 => (if t178 = true then (if (l0.length : Int) > 60 then (some true) else ((tok_Ends.f k l0).bind fun t179 => (if (t179.length : Int) = (l0.length : Int) then ((tok_Join.f k l0).bind fun t182 => (tattinglaw1_TokEnds.l0 k l0 t179 t182 0 0)) else (some false)))) else (some false))
theorem tattinglaw1_TokEnds.mono_l : ∀ k, (∀ y0 y1 y2 y3 y4, LeO (tattinglaw1_TokEnds.l0 k y0 y1 y2 y3 y4) (tattinglaw1_TokEnds.l0 (k + 1) y0 y1 y2 y3 y4))
 | 0 => fun _ _ _ _ _ r h => by simp [tattinglaw1_TokEnds.l0] at h
 | k + 1 => by
  have ih0 := tattinglaw1_TokEnds.mono_l k
  ·intro y0 y1 y2 y3 y4
   unfold tattinglaw1_TokEnds.l0
   repeat' first
   | (with_reducible exact ih0 _ _ _ _ _)
   | (with_reducible exact tattinglaw1_awake.mono _)
   | (with_reducible exact tok_Ends.mono _ _)
   | (with_reducible exact tok_Join.mono _ _)
   | (with_reducible exact LeO.refl _)
   | (with_reducible exact LeO.none _)
   | (with_reducible refine LeO.ite ?_ ?_)
   | (with_reducible refine LeO.bind ?_ (fun _ => ?_))
   | exact ih0 _ _ _ _ _
   | exact tattinglaw1_awake.mono _
   | exact tok_Ends.mono _ _
   | exact tok_Join.mono _ _
   | exact LeO.none _
   | refine LeO.ite ?_ ?_
   | refine LeO.bind ?_ (fun _ => ?_)
theorem tattinglaw1_TokEnds.mono : ∀ a0 k, LeO (tattinglaw1_TokEnds.f k a0) (tattinglaw1_TokEnds.f (k + 1) a0) := by
 intro a0 k
 have ih0 := tattinglaw1_TokEnds.mono_l k
 unfold tattinglaw1_TokEnds.f
 repeat' first
   | (with_reducible exact ih0 _ _ _ _ _)
   | (with_reducible exact tattinglaw1_awake.mono _)
   | (with_reducible exact tok_Ends.mono _ _)
   | (with_reducible exact tok_Join.mono _ _)
   | (with_reducible exact LeO.refl _)
   | (with_reducible exact LeO.none _)
   | (with_reducible refine LeO.ite ?_ ?_)
   | (with_reducible refine LeO.bind ?_ (fun _ => ?_))
   | exact ih0 _ _ _ _ _
   | exact tattinglaw1_awake.mono _
   | exact tok_Ends.mono _ _
   | exact tok_Join.mono _ _
   | exact LeO.none _
   | refine LeO.ite ?_ ?_
   | refine LeO.bind ?_ (fun _ => ?_)
set_option maxHeartbeats 8000000 in
set_option maxRecDepth 100000 in
theorem tattinglaw1_TokEnds.calls (k : Nat) (A0 : Option Addr) (c0 : Nat) (l0 : List (List Int)) (r : Bool) (w : World) (hr0 : Kd.C (Kd.slice 5 (Kd.int .u8)) w A0 l0.length l0) (hc0 : l0.length ≤ c0) (h : tattinglaw1_TokEnds.f k l0 = some r) (hr_ : r = true) :
  Calls Try.prog 5 #[.slice A0 l0.length c0] w fun e w' => e = .returned (.bool r) ∧ Below w.heap.size w w' := by
 have HR0 := Aside0.mk hr0
 have HC0 := Aside0.mk hc0
 clear hr0 hc0
 have HB := Aside0.mk (Below.refl w.heap.size w)
 have H : ((tattinglaw1_awake.f k).bind fun t178 => (if t178 = true then (if (l0.length : Int) > 60 then (some true) else ((tok_Ends.f k l0).bind fun t179 => (if (t179.length : Int) = (l0.length : Int) then ((tok_Join.f k l0).bind fun t182 => (tattinglaw1_TokEnds.l0 k l0 t179 t182 0 0)) else (some false)))) else (some false))) = some r := h
 clear h
 replace H := Option.bind_eq_some_iff.mp H
 obtain ⟨t178, A20, H⟩ := H
 replace H : (if t178 = true then (if (l0.length : Int) > 60 then (some true) else ((tok_Ends.f k l0).bind fun t179 => (if (t179.length : Int) = (l0.length : Int) then ((tok_Join.f k l0).bind fun t182 => (tattinglaw1_TokEnds.l0 k l0 t179 t182 0 0)) else (some false)))) else (some false)) = some r := H
 have A2 := Aside0.mk A20
 clear A20
 by_cases c3 : t178 = true
 ·subst c3
  have H1 : (if (l0.length : Int) > 60 then (some true) else ((tok_Ends.f k l0).bind fun t179 => (if (t179.length : Int) = (l0.length : Int) then ((tok_Join.f k l0).bind fun t182 => (tattinglaw1_TokEnds.l0 k l0 t179 t182 0 0)) else (some false)))) = some r := by rw [if_pos rfl] at H; exact H
  clear H
  have H := H1
  clear H1
  by_cases c4 : (l0.length : Int) > 60
  ·rw [if_pos c4] at H
   have c4b0 : decide (60 < (l0.length : Int)) = true := decide_eq_true c4
   have c4b1 : decide (60 < l0.length) = true := decide_eq_true (by omega)
   clear c4
   obtain rfl := Option.some.inj H
   go_enter Try.func5, Try.ntmps5
   try dsimp only [List.append]
   go_wp2_with (first | (go_at_call 9; (with_reducible refine (tattinglaw1_awake.calls k  true _ A2.out rfl).mono ?_); rintro e w5 ⟨rfl, hb⟩; have n0_ := Aside0.mk (below_step (by repeat (first | (with_reducible first | exact HB.out | apply below_alloc | apply pw_below_drewN | apply below_drew1) | exact HB.out)) hb); clear HB; have HB := n0_; clear n0_; (try clear hb); (try clear hb2); (try clear hk); (try clear hi)))
   repeat (go_quiet (first | (go_at_call 9; (with_reducible refine (tattinglaw1_awake.calls k  true _ A2.out rfl).mono ?_); rintro e w5 ⟨rfl, hb⟩; have n0_ := Aside0.mk (below_step (by repeat (first | (with_reducible first | exact HB.out | apply below_alloc | apply pw_below_drewN | apply below_drew1) | exact HB.out)) hb); clear HB; have HB := n0_; clear n0_; (try clear hb); (try clear hb2); (try clear hk); (try clear hi))); try go_wp2_with (first | (go_at_call 9; (with_reducible refine (tattinglaw1_awake.calls k  true _ A2.out rfl).mono ?_); rintro e w5 ⟨rfl, hb⟩; have n0_ := Aside0.mk (below_step (by repeat (first | (with_reducible first | exact HB.out | apply below_alloc | apply pw_below_drewN | apply below_drew1) | exact HB.out)) hb); clear HB; have HB := n0_; clear n0_; (try clear hb); (try clear hb2); (try clear hk); (try clear hi))))
   go_ret
   exact ⟨by first | rfl | (simp [errW_none, errW_some] <;> rfl) | (simp [*, errW_none, errW_some] <;> rfl), by repeat (first | (with_reducible first | exact HB.out | apply below_alloc | apply pw_below_drewN | apply below_drew1) | exact HB.out)⟩
  ·rw [if_neg c4] at H
   have c4b0 : decide (60 < (l0.length : Int)) = false := decide_eq_false c4
   have c4b1 : decide (60 < l0.length) = false := decide_eq_false (by omega)
   clear c4
   replace H := Option.bind_eq_some_iff.mp H
   obtain ⟨t179, A60, H⟩ := H
   replace H : (if (t179.length : Int) = (l0.length : Int) then ((tok_Join.f k l0).bind fun t182 => (tattinglaw1_TokEnds.l0 k l0 t179 t182 0 0)) else (some false)) = some r := H
   have A6 := Aside0.mk A60
   clear A60
   by_cases c7 : (t179.length : Int) = (l0.length : Int)
   ·rw [if_pos c7] at H
    have c7b0 : ((t179.length : Int) == (l0.length : Int)) = true := beq_iff_eq.mpr c7
    have c7b1 : ((t179.length : Int) != (l0.length : Int)) = false := bne_eq_false_iff_eq.mpr c7
    have c7b2 : (t179.length == l0.length) = true := by first | simpa using c7 | (simp at c7 ⊢; omega)
    clear c7
    replace H := Option.bind_eq_some_iff.mp H
    obtain ⟨t182, A80, H⟩ := H
    replace H : (tattinglaw1_TokEnds.l0 k l0 t179 t182 0 0) = some r := H
    have A8 := Aside0.mk A80
    clear A80
    have H' := Aside0.mk H
    clear H
    go_enter Try.func5, Try.ntmps5
    try dsimp only [List.append]
    go_wp2_with (first | (go_at_call 9; (with_reducible refine (tattinglaw1_awake.calls k  true _ A2.out rfl).mono ?_); rintro e w9 ⟨rfl, hb⟩; have n0_ := Aside0.mk (below_step (by repeat (first | (with_reducible first | exact HB.out | apply below_alloc | apply pw_below_drewN | apply below_drew1) | exact HB.out)) hb); clear HB; have HB := n0_; clear n0_; (try clear hb); (try clear hb2); (try clear hk); (try clear hi)) | (go_at_call 14; (with_reducible refine (tok_Ends.calls k _ _ l0 t179 _ ?side1 ?side2 A6.out).mono ?_); (case side1 => repeat (first | exact (Kd.C_below HR0.out HB.out) | (with_reducible refine Kd.C_alloc ?_ _) | (with_reducible refine Kd.C_drewN ?_ _) | (with_reducible refine Kd.C_drew ?_))); (case side2 => exact HC0.out); rintro e w10 ⟨v180, rfl, ho0, hb⟩; have n0_ := Aside0.mk (Kd.R_lower ho0 (below_size (by repeat (first | (with_reducible first | exact HB.out | apply below_alloc | apply pw_below_drewN | apply below_drew1) | exact HB.out)))); have n1_ := Aside0.mk (below_step (by repeat (first | (with_reducible first | exact HB.out | apply below_alloc | apply pw_below_drewN | apply below_drew1) | exact HB.out)) hb); clear HB; have HO181 := n0_; have HB := n1_; clear n0_ n1_; (try clear hb); (try clear hb2); (try clear hk); (try clear hi); (try clear ho0); obtain ⟨Ao11, co11, eo11⟩ := Kd.R_slice HO181.out; subst eo11) | (go_at_call 11; (with_reducible refine (tok_Join.calls k _ _ l0 t182 _ ?side1 ?side2 A8.out).mono ?_); (case side1 => repeat (first | exact (Kd.C_below HR0.out HB.out) | (with_reducible refine Kd.C_alloc ?_ _) | (with_reducible refine Kd.C_drewN ?_ _) | (with_reducible refine Kd.C_drew ?_))); (case side2 => exact HC0.out); rintro e w12 ⟨v183, rfl, ho0, hb⟩; have n0_ := Aside0.mk (Kd.R_below (by (with_reducible repeat (first | apply Kd.R_alloc | apply Kd.R_drewN | apply Kd.R_drew)); exact HO181.out) hb); have n1_ := Aside0.mk (Kd.R_lower ho0 (below_size (by repeat (first | (with_reducible first | exact HB.out | apply below_alloc | apply pw_below_drewN | apply below_drew1) | exact HB.out)))); have n2_ := Aside0.mk (below_step (by repeat (first | (with_reducible first | exact HB.out | apply below_alloc | apply pw_below_drewN | apply below_drew1) | exact HB.out)) hb); clear HO181; clear HB; have HO181 := n0_; have HO184 := n1_; have HB := n2_; clear n0_ n1_ n2_; (try clear hb); (try clear hb2); (try clear hk); (try clear hi); (try clear ho0)))
    repeat (go_quiet (first | (go_at_call 9; (with_reducible refine (tattinglaw1_awake.calls k  true _ A2.out rfl).mono ?_); rintro e w9 ⟨rfl, hb⟩; have n0_ := Aside0.mk (below_step (by repeat (first | (with_reducible first | exact HB.out | apply below_alloc | apply pw_below_drewN | apply below_drew1) | exact HB.out)) hb); clear HB; have HB := n0_; clear n0_; (try clear hb); (try clear hb2); (try clear hk); (try clear hi)) | (go_at_call 14; (with_reducible refine (tok_Ends.calls k _ _ l0 t179 _ ?side1 ?side2 A6.out).mono ?_); (case side1 => repeat (first | exact (Kd.C_below HR0.out HB.out) | (with_reducible refine Kd.C_alloc ?_ _) | (with_reducible refine Kd.C_drewN ?_ _) | (with_reducible refine Kd.C_drew ?_))); (case side2 => exact HC0.out); rintro e w10 ⟨v180, rfl, ho0, hb⟩; have n0_ := Aside0.mk (Kd.R_lower ho0 (below_size (by repeat (first | (with_reducible first | exact HB.out | apply below_alloc | apply pw_below_drewN | apply below_drew1) | exact HB.out)))); have n1_ := Aside0.mk (below_step (by repeat (first | (with_reducible first | exact HB.out | apply below_alloc | apply pw_below_drewN | apply below_drew1) | exact HB.out)) hb); clear HB; have HO181 := n0_; have HB := n1_; clear n0_ n1_; (try clear hb); (try clear hb2); (try clear hk); (try clear hi); (try clear ho0); obtain ⟨Ao11, co11, eo11⟩ := Kd.R_slice HO181.out; subst eo11) | (go_at_call 11; (with_reducible refine (tok_Join.calls k _ _ l0 t182 _ ?side1 ?side2 A8.out).mono ?_); (case side1 => repeat (first | exact (Kd.C_below HR0.out HB.out) | (with_reducible refine Kd.C_alloc ?_ _) | (with_reducible refine Kd.C_drewN ?_ _) | (with_reducible refine Kd.C_drew ?_))); (case side2 => exact HC0.out); rintro e w12 ⟨v183, rfl, ho0, hb⟩; have n0_ := Aside0.mk (Kd.R_below (by (with_reducible repeat (first | apply Kd.R_alloc | apply Kd.R_drewN | apply Kd.R_drew)); exact HO181.out) hb); have n1_ := Aside0.mk (Kd.R_lower ho0 (below_size (by repeat (first | (with_reducible first | exact HB.out | apply below_alloc | apply pw_below_drewN | apply below_drew1) | exact HB.out)))); have n2_ := Aside0.mk (below_step (by repeat (first | (with_reducible first | exact HB.out | apply below_alloc | apply pw_below_drewN | apply below_drew1) | exact HB.out)) hb); clear HO181; clear HB; have HO181 := n0_; have HO184 := n1_; have HB := n2_; clear n0_ n1_ n2_; (try clear hb); (try clear hb2); (try clear hk); (try clear hi); (try clear ho0))); try go_wp2_with (first | (go_at_call 9; (with_reducible refine (tattinglaw1_awake.calls k  true _ A2.out rfl).mono ?_); rintro e w9 ⟨rfl, hb⟩; have n0_ := Aside0.mk (below_step (by repeat (first | (with_reducible first | exact HB.out | apply below_alloc | apply pw_below_drewN | apply below_drew1) | exact HB.out)) hb); clear HB; have HB := n0_; clear n0_; (try clear hb); (try clear hb2); (try clear hk); (try clear hi)) | (go_at_call 14; (with_reducible refine (tok_Ends.calls k _ _ l0 t179 _ ?side1 ?side2 A6.out).mono ?_); (case side1 => repeat (first | exact (Kd.C_below HR0.out HB.out) | (with_reducible refine Kd.C_alloc ?_ _) | (with_reducible refine Kd.C_drewN ?_ _) | (with_reducible refine Kd.C_drew ?_))); (case side2 => exact HC0.out); rintro e w10 ⟨v180, rfl, ho0, hb⟩; have n0_ := Aside0.mk (Kd.R_lower ho0 (below_size (by repeat (first | (with_reducible first | exact HB.out | apply below_alloc | apply pw_below_drewN | apply below_drew1) | exact HB.out)))); have n1_ := Aside0.mk (below_step (by repeat (first | (with_reducible first | exact HB.out | apply below_alloc | apply pw_below_drewN | apply below_drew1) | exact HB.out)) hb); clear HB; have HO181 := n0_; have HB := n1_; clear n0_ n1_; (try clear hb); (try clear hb2); (try clear hk); (try clear hi); (try clear ho0); obtain ⟨Ao11, co11, eo11⟩ := Kd.R_slice HO181.out; subst eo11) | (go_at_call 11; (with_reducible refine (tok_Join.calls k _ _ l0 t182 _ ?side1 ?side2 A8.out).mono ?_); (case side1 => repeat (first | exact (Kd.C_below HR0.out HB.out) | (with_reducible refine Kd.C_alloc ?_ _) | (with_reducible refine Kd.C_drewN ?_ _) | (with_reducible refine Kd.C_drew ?_))); (case side2 => exact HC0.out); rintro e w12 ⟨v183, rfl, ho0, hb⟩; have n0_ := Aside0.mk (Kd.R_below (by (with_reducible repeat (first | apply Kd.R_alloc | apply Kd.R_drewN | apply Kd.R_drew)); exact HO181.out) hb); have n1_ := Aside0.mk (Kd.R_lower ho0 (below_size (by repeat (first | (with_reducible first | exact HB.out | apply below_alloc | apply pw_below_drewN | apply below_drew1) | exact HB.out)))); have n2_ := Aside0.mk (below_step (by repeat (first | (with_reducible first | exact HB.out | apply below_alloc | apply pw_below_drewN | apply below_drew1) | exact HB.out)) hb); clear HO181; clear HB; have HO181 := n0_; have HO184 := n1_; have HB := n2_; clear n0_ n1_ n2_; (try clear hb); (try clear hb2); (try clear hk); (try clear hi); (try clear ho0))))
    go_loopg [5, 6] k (fun kq v5 v6 w' => ∃ (x5_1 : Int) (x6_1 : Int), v5 = .int .i64 x5_1 ∧ v6 = .int .i64 x6_1 ∧ Aside0 (tattinglaw1_TokEnds.l0 kq l0 t179 t182 x5_1 x6_1 = some r) ∧ Aside0 (kq ≤ k) ∧ Aside0 (Kd.R (Kd.int .i64) 3 w' w.heap.size (fun _ => True) (.slice Ao11 t179.length co11) t179) ∧ Aside0 (Kd.R (Kd.int .u8) 5 w' w.heap.size (fun _ => True) v183 t182) ∧ Aside0 (Below w.heap.size w w'))
    case atStart => exact ⟨(0), (0), (by first | rfl | (simp; done) | (simp [*]; done)), (by first | rfl | (simp; done) | (simp [*]; done)), H', ⟨Nat.le_refl _⟩, ⟨by (with_reducible repeat (first | apply Kd.R_alloc | apply Kd.R_drewN | apply Kd.R_drew)); exact HO181.out⟩, ⟨by (with_reducible repeat (first | apply Kd.R_alloc | apply Kd.R_drewN | apply Kd.R_drew)); exact HO184.out⟩, ⟨by repeat (first | (with_reducible first | exact HB.out | apply below_alloc | apply pw_below_drewN | apply below_drew1) | exact HB.out)⟩⟩
    case round =>
     clear H'
     try clear p2
     try clear c3
     try clear c4
     try clear c4b0
     try clear c4b1
     try clear c5
     try clear c7
     try clear c7b0
     try clear c7b1
     try clear c7b2
     obtain ⟨x5_1, x6_1, rfl, rfl, HA, HK1, HO_3, HO_4, HB⟩ := hrel
     cases gk with
     | zero => exact absurd HA.out (by simp [tattinglaw1_TokEnds.l0])
     | succ k1 =>
      have H := HA.out
      clear HA
      simp only [tattinglaw1_TokEnds.l0] at H
      by_cases c13 : x6_1 < (l0.length : Int)
      ·rw [if_pos c13] at H
       have c13b0 : decide (x6_1 < (l0.length : Int)) = true := decide_eq_true c13
       clear c13
       by_cases c14 : 0 ≤ x6_1
       ·rw [if_pos c14] at H
        have c14b0 : decide (0 ≤ x6_1) = true := decide_eq_true c14
        clear c14
        by_cases c15 : x6_1 < (t179.length : Int)
        ·rw [if_pos c15] at H
         have c15b0 : decide (x6_1 < (t179.length : Int)) = true := decide_eq_true c15
         clear c15
         by_cases c16 : (wrap64 ((rd t179 x6_1) - x5_1)) = ((rd_L1 l0 x6_1).length : Int)
         ·rw [if_pos c16] at H
          have c16b0 : ((wrap64 ((rd t179 x6_1) - x5_1)) == ((rd_L1 l0 x6_1).length : Int)) = true := beq_iff_eq.mpr c16
          have c16b1 : ((wrap64 ((rd t179 x6_1) - x5_1)) != ((rd_L1 l0 x6_1).length : Int)) = false := bne_eq_false_iff_eq.mpr c16
          clear c16
          by_cases c17 : (rd t179 x6_1) > (t182.length : Int)
          ·rw [if_pos c17] at H
           have c17b0 : decide ((t182.length : Int) < (rd t179 x6_1)) = true := decide_eq_true c17
           clear c17
           exact absurd (Option.some.inj H) (by rw [hr_]; decide)
          ·rw [if_neg c17] at H
           have c17b0 : decide ((t182.length : Int) < (rd t179 x6_1)) = false := decide_eq_false c17
           clear c17
           by_cases c18 : 0 ≤ x5_1
           ·rw [if_pos c18] at H
            have c18b0 := eq_true c18
            have c18b1 : decide (0 ≤ x5_1) = true := decide_eq_true c18
            clear c18
            by_cases c19 : x5_1 ≤ (rd t179 x6_1)
            ·rw [if_pos c19] at H
             have c19b0 := eq_true c19
             have c19b1 : decide (x5_1 ≤ (rd t179 x6_1)) = true := decide_eq_true c19
             clear c19
             by_cases c20 : (rd t179 x6_1) ≤ (t182.length : Int)
             ·rw [if_pos c20] at H
              have c20b0 := eq_true c20
              have c20b1 : decide ((rd t179 x6_1) ≤ (t182.length : Int)) = true := decide_eq_true c20
              clear c20
              obtain ⟨y189, hy189⟩ : ∃ y_ : List Int, y_ = ((t182.take ((rd t179 x6_1) : Int).toNat).drop (x5_1 : Int).toNat) := ⟨_, rfl⟩
              replace H : (if (strOfNums y189).toList = (strOfNums (rd_L1 l0 x6_1)).toList then (tattinglaw1_TokEnds.l0 k1 l0 t179 t182 (rd t179 x6_1) (wrap64 (x6_1 + 1))) else (some false)) = some r := by first | (rw [hy189]; with_reducible exact H) | (have H2_ := (Option.bind_some _ _).symm.trans H; rw [hy189]; with_reducible exact H2_) | (have H2_ := (Option.bind_some _ _).symm.trans H; with_reducible exact H2_) | with_reducible exact H | (rw [hy189]; exact H) | exact H
              have Ny189 := Aside0.mk hy189
              clear hy189
              by_cases c21 : (strOfNums y189).toList = (strOfNums (rd_L1 l0 x6_1)).toList
              ·rw [if_pos c21] at H
               have c21b0 : ((strOfNums y189).toList == (strOfNums (rd_L1 l0 x6_1)).toList) = true := beq_iff_eq.mpr c21
               have c21b1 : ((strOfNums y189).toList != (strOfNums (rd_L1 l0 x6_1)).toList) = false := bne_eq_false_iff_eq.mpr c21
               clear c21
               have H' := Aside0.mk H
               clear H
               have p185 : 0 ≤ (x6_1 : Int) := of_decide_eq_true (by first | (with_reducible assumption) | assumption)
               have q185 : x6_1 < (t179.length : Int) := of_decide_eq_true (by first | (with_reducible assumption) | assumption)
               obtain ⟨ad185, e185, hx185_0⟩ := Kd.at_int (Kd.R_reads' HO_3.out).2.2 x6_1 p185 q185
               cases e185
               replace p185 := eq_true p185
               replace q185 := eq_true q185
               have p186 : 0 ≤ (x6_1 : Int) := of_decide_eq_true (by first | (with_reducible assumption) | assumption)
               have q186 : x6_1 < (l0.length : Int) := of_decide_eq_true (by first | (with_reducible assumption) | assumption)
               obtain ⟨ad186, A186_0, c186_0, e186, hx186_0, hl186_0, hi186_0⟩ := at_L1 HR0.out x6_1 p186 q186
               cases e186
               replace hx186_0 := (HB.out.cell (World.block_lt_of_cell? w _ hx186_0)).trans hx186_0
               have HR186_0 := Aside0.mk hi186_0
               have HC186_0 := Aside0.mk hl186_0
               clear hi186_0 hl186_0
               replace p186 := eq_true p186
               replace q186 := eq_true q186
               have p187 : 0 ≤ (x6_1 : Int) := of_decide_eq_true (by first | (with_reducible assumption) | assumption)
               have q187 : x6_1 < (t179.length : Int) := of_decide_eq_true (by first | (with_reducible assumption) | assumption)
               obtain ⟨ad187, e187, hx187_0⟩ := Kd.at_int (Kd.R_reads' HO_3.out).2.2 x6_1 p187 q187
               obtain rfl : ad185 = ad187 := (by injection e187)
               replace p187 := eq_true p187
               replace q187 := eq_true q187
               obtain ⟨Ao22, co22, eo22⟩ := Kd.R_slice HO_4.out
               subst eo22
               have p188 : 0 ≤ (x6_1 : Int) := of_decide_eq_true (by first | (with_reducible assumption) | assumption)
               have q188 : x6_1 < (t179.length : Int) := of_decide_eq_true (by first | (with_reducible assumption) | assumption)
               obtain ⟨ad188, e188, hx188_0⟩ := Kd.at_int (Kd.R_reads' HO_3.out).2.2 x6_1 p188 q188
               obtain rfl : ad185 = ad188 := (by injection e188)
               replace p188 := eq_true p188
               replace q188 := eq_true q188
               have q23 : ((rd t179 x6_1) : Int) ≤ ((t182.length : Int) : Int) := of_decide_eq_true (by first | (with_reducible assumption) | assumption)
               obtain ⟨i023, hi023, _, hsz23, _⟩ := info_parts info5
               have hroom23 : t182.length ≤ co22 := (Kd.R_reads' HO_4.out).2.1
               have hC23 : Kd.C (Kd.int .u8) _ Ao22 t182.length t182 := (Kd.R_reads' HO_4.out).2.2
               have ql23 : (x5_1 : Int) ≤ ((rd t179 x6_1) : Int) := of_decide_eq_true (by first | (with_reducible assumption) | assumption)
               have q023 : (0 : Int) ≤ (x5_1 : Int) := of_decide_eq_true (by first | (with_reducible assumption) | assumption)
               have hcut23 := cut_mid (P := Try.prog) 22 5 .i64 .i64 Try.underlying22 hi023 1 hsz23 Ao22 t182.length co22 x5_1 (rd t179 x6_1) q023 ql23 q23 hroom23
               have hr23 := Kd.C_mid (lo := (x5_1 : Int).toNat) (hi := ((rd t179 x6_1) : Int).toNat) (c := co22) hC23 (by omega) (by omega) hroom23
               obtain ⟨A23, hA23⟩ : ∃ z_, z_ = (if co22 = (x5_1 : Int).toNat then Ao22 else (Ao22 : Option Addr).map (·.add ((x5_1 : Int).toNat * 1))) := ⟨_, rfl⟩
               obtain ⟨c23, hc23⟩ : ∃ z_, z_ = co22 - (x5_1 : Int).toNat := ⟨_, rfl⟩
               have hy23 : y189.length = ((rd t179 x6_1) : Int).toNat - (x5_1 : Int).toNat := (by rw [Ny189.out, List.length_drop, List.length_take] <;> omega)
               rw [show ((t182).take ((rd t179 x6_1) : Int).toNat).drop (x5_1 : Int).toNat = y189 from Ny189.out.symm] at hr23
               replace hr23 : Kd.C (Kd.int .u8) _ A23 y189.length y189 := (by rw [hA23]; exact hr23)
               rw [← hy23, ← hA23, ← hc23] at hcut23
               have HR192 := Aside0.mk hr23
               have HC192 := Aside0.mk (show y189.length ≤ c23 from by rw [hy23, hc23]; exact Nat.sub_le_sub_right (Nat.le_trans (by omega) hroom23) _)
               clear hr23 hC23 hroom23 hi023 hsz23 hc23
               have KY23 := Aside0.mk hy23
               have KA23 := Aside0.mk hA23
               clear hy23 hA23
               have KL23 := Aside0.mk (show ((rd t179 x6_1) : Int).toNat ≤ t182.length from by omega)
               have KM23 := Aside0.mk (show (x5_1 : Int).toNat ≤ ((rd t179 x6_1) : Int).toNat from by omega)
               replace q23 := eq_true q23
               have hcv24 := Kd.C_string (P := Try.prog) (A := A23) (c := c23) Try.underlying22 Try.underlying5 Try.underlying9 (by repeat (first | (with_reducible exact HR192.out) | (with_reducible refine Kd.C_alloc ?_ _) | (with_reducible refine Kd.C_drewN ?_ _) | (with_reducible refine Kd.C_drew ?_) | exact HR192.out))
               have hcvd25 := fun nd_ => Kd.C_string (P := Try.prog) (A := A23) (c := c23) Try.underlying22 Try.underlying5 Try.underlying9 (Kd.C_drewN (by repeat (first | (with_reducible exact HR192.out) | (with_reducible refine Kd.C_alloc ?_ _) | (with_reducible refine Kd.C_drewN ?_ _) | (with_reducible refine Kd.C_drew ?_) | exact HR192.out)) nd_)
               have p193 : 0 ≤ (x6_1 : Int) := of_decide_eq_true (by first | (with_reducible assumption) | assumption)
               have q193 : x6_1 < (l0.length : Int) := of_decide_eq_true (by first | (with_reducible assumption) | assumption)
               obtain ⟨ad193, A193_0, c193_0, e193, hx193_0, hl193_0, hi193_0⟩ := at_L1 HR0.out x6_1 p193 q193
               obtain rfl : ad186 = ad193 := (by injection e193)
               replace hx193_0 := (HB.out.cell (World.block_lt_of_cell? w _ hx193_0)).trans hx193_0
               have HR193_0 := Aside0.mk hi193_0
               have HC193_0 := Aside0.mk hl193_0
               clear hi193_0 hl193_0
               replace p193 := eq_true p193
               replace q193 := eq_true q193
               have ea_ := Option.some.inj (hx186_0.symm.trans hx193_0)
               injection ea_ with ea_ en_ ec_
               subst ea_
               subst ec_
               clear en_
               have hcv26 := Kd.C_string (P := Try.prog) (A := A186_0) (c := c186_0) Try.underlying22 Try.underlying5 Try.underlying9 (Kd.C_below HR193_0.out HB.out)
               have hcvd27 := fun nd_ => Kd.C_string (P := Try.prog) (A := A186_0) (c := c186_0) Try.underlying22 Try.underlying5 Try.underlying9 (Kd.C_drewN (Kd.C_below HR193_0.out HB.out) nd_)
               have p194 : 0 ≤ (x6_1 : Int) := of_decide_eq_true (by first | (with_reducible assumption) | assumption)
               have q194 : x6_1 < (t179.length : Int) := of_decide_eq_true (by first | (with_reducible assumption) | assumption)
               obtain ⟨ad194, e194, hx194_0⟩ := Kd.at_int (Kd.R_reads' HO_3.out).2.2 x6_1 p194 q194
               obtain rfl : ad185 = ad194 := (by injection e194)
               replace p194 := eq_true p194
               replace q194 := eq_true q194
               go_wp2
               repeat (go_quiet (fail); try go_wp2)
               go_roundg k1
               case measure => have := HK1.out; omega
               case rel => exact ⟨(rd t179 x6_1), (wrap64 (x6_1 + 1)), (by first | rfl | (simp; done) | (simp [*]; done)), (by first | rfl | (simp; done) | (simp [*]; done)), H', ⟨by have := HK1.out; omega⟩, ⟨by (with_reducible repeat (first | apply Kd.R_alloc | apply Kd.R_drewN | apply Kd.R_drew)); exact HO_3.out⟩, ⟨by (with_reducible repeat (first | apply Kd.R_alloc | apply Kd.R_drewN | apply Kd.R_drew)); exact HO_4.out⟩, ⟨by repeat (first | (with_reducible first | exact HB.out | apply below_alloc | apply pw_below_drewN | apply below_drew1) | exact HB.out)⟩⟩
              ·rw [if_neg c21] at H
               have c21b0 : ((strOfNums y189).toList == (strOfNums (rd_L1 l0 x6_1)).toList) = false := beq_eq_false_iff_ne.mpr c21
               have c21b1 : ((strOfNums y189).toList != (strOfNums (rd_L1 l0 x6_1)).toList) = true := bne_iff_ne.mpr c21
               exact absurd (Option.some.inj H) (by rw [hr_]; decide)
             ·rw [if_neg c20] at H
              exact absurd H (by simp)
            ·rw [if_neg c19] at H
             exact absurd H (by simp)
           ·rw [if_neg c18] at H
            exact absurd H (by simp)
         ·rw [if_neg c16] at H
          have c16b0 : ((wrap64 ((rd t179 x6_1) - x5_1)) == ((rd_L1 l0 x6_1).length : Int)) = false := beq_eq_false_iff_ne.mpr c16
          have c16b1 : ((wrap64 ((rd t179 x6_1) - x5_1)) != ((rd_L1 l0 x6_1).length : Int)) = true := bne_iff_ne.mpr c16
          exact absurd (Option.some.inj H) (by rw [hr_]; decide)
        ·rw [if_neg c15] at H
         exact absurd H (by simp)
       ·rw [if_neg c14] at H
        exact absurd H (by simp)
      ·rw [if_neg c13] at H
       have c13b0 : decide (x6_1 < (l0.length : Int)) = false := decide_eq_false c13
       clear c13
       obtain rfl := Option.some.inj H
       obtain ⟨Ao28, co28, eo28⟩ := Kd.R_slice HO_4.out
       subst eo28
       go_wp2
       repeat (go_quiet (fail); try go_wp2)
       go_ret
       exact ⟨by first | rfl | (simp [errW_none, errW_some] <;> rfl) | (simp [*, errW_none, errW_some] <;> rfl), by repeat (first | (with_reducible first | exact HB.out | apply below_alloc | apply pw_below_drewN | apply below_drew1) | exact HB.out)⟩
   ·rw [if_neg c7] at H
    have c7b0 : ((t179.length : Int) == (l0.length : Int)) = false := beq_eq_false_iff_ne.mpr c7
    have c7b1 : ((t179.length : Int) != (l0.length : Int)) = true := bne_iff_ne.mpr c7
    have c7b2 : (t179.length == l0.length) = false := by first | simpa using c7 | (simp at c7 ⊢; omega)
    exact absurd (Option.some.inj H) (by rw [hr_]; decide)
 ·replace c3 := Bool.eq_false_iff.mpr c3
  subst c3
  have H1 : (some false) = some r := by rw [if_neg (show ¬ (false = true) by decide)] at H; exact H
  clear H
  have H := H1
  clear H1
  exact absurd (Option.some.inj H) (by rw [hr_]; decide)

end Go.Proofs.Ytfmkiankjibkfaa.PTokEnds
