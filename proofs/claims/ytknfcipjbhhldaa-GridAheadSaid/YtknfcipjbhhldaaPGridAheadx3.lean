/- What the given program's functions come to, each a Lean function and the walk that shows it: no condition beside those that each theorem names. -/
import Derived.Test.YtknfcipjbhhldaaPGridAheadx0
import Derived.Test.YtknfcipjbhhldaaPGridAheadx1
namespace Go.Proofs.Ytknfcipjbhhldaa.PGridAhead
open Go.RowKit Go.Proofs.YtknfcipjbhhldaaW.PrintWords Go.Proofs.YtknfcipjbhhldaaW.PrintLast Go.Proofs.YtknfcipjbhhldaaW.PrintMore
attribute [local go_sem] max2_int min2_int max_two min_two max_three min_three max_four min_four   -- for this text's walks alone
set_option linter.unusedVariables false
set_option linter.unusedSimpArgs false

/-! ### grid_Ahead: function 13 -/
mutual
def grid_Ahead.l0 : Nat → List Int → List Int → List (List Int) → Int → Int → Option ((List (List Int)))
 | 0, _, _, _, _, _ => none
 | k + 1, x0, x1, x5, x14, x15 => if x15 < x14 then (grid_Ahead.l1 k x0 x1 x5 x15 x14 x15 (x1.length : Int) 0) else (some x5)
def grid_Ahead.l1 : Nat → List Int → List Int → List (List Int) → Int → Int → Int → Int → Int → Option ((List (List Int)))
 | 0, _, _, _, _, _, _, _, _ => none
 | k + 1, x0, x1, x5, x6, x14, x15, x19, x20 => if x20 < x19 then (if 0 ≤ x6 then (if x6 < (x0.length : Int) then (if 0 ≤ x20 then (if x20 < (x1.length : Int) then (if (rd x0 x6) = (rd x1 x20) then (if 0 ≤ (wrap64 (x6 + 1)) then (if (wrap64 (x6 + 1)) < (x5.length : Int) then (if x6 < (x5.length : Int) then (if x20 < ((rd_L1 x5 x6).length : Int) then (if 0 ≤ (wrap64 (x20 + 1)) then (if (wrap64 (x20 + 1)) < ((rd_L1 x5 (wrap64 (x6 + 1))).length : Int) then (grid_Ahead.l1 k x0 x1 (x5.set ((wrap64 (x6 + 1)) : Int).toNat ((rd_L1 x5 (wrap64 (x6 + 1))).set ((wrap64 (x20 + 1)) : Int).toNat (wrap64 ((rd (rd_L1 x5 x6) x20) + 1)))) x6 x14 x15 x19 (wrap64 (x20 + 1))) else (none)) else (none)) else (none)) else (none)) else (none)) else (none)) else (if 0 ≤ (wrap64 (x6 + 1)) then (if (wrap64 (x6 + 1)) < (x5.length : Int) then (if x6 < (x5.length : Int) then (if 0 ≤ (wrap64 (x20 + 1)) then (if (wrap64 (x20 + 1)) < ((rd_L1 x5 x6).length : Int) then (if x20 < ((rd_L1 x5 (wrap64 (x6 + 1))).length : Int) then (if (wrap64 (x20 + 1)) < ((rd_L1 x5 (wrap64 (x6 + 1))).length : Int) then (grid_Ahead.l1 k x0 x1 (x5.set ((wrap64 (x6 + 1)) : Int).toNat ((rd_L1 x5 (wrap64 (x6 + 1))).set ((wrap64 (x20 + 1)) : Int).toNat (mx (rd (rd_L1 x5 x6) (wrap64 (x20 + 1))) (rd (rd_L1 x5 (wrap64 (x6 + 1))) x20)))) x6 x14 x15 x19 (wrap64 (x20 + 1))) else (none)) else (none)) else (none)) else (none)) else (none)) else (none)) else (none))) else (none)) else (none)) else (none)) else (none)) else (grid_Ahead.l0 k x0 x1 x5 x14 (wrap64 (x15 + 1)))
end
def grid_Ahead.f (k : Nat) (l0 : List Int) (l1 : List Int) : Option ((List (List Int))) := (grid_table.f k (l0.length : Int) (l1.length : Int)).bind fun t127 => (grid_Ahead.l0 k l0 l1 t127 (l0.length : Int) 0)
theorem grid_Ahead.mono_l : ∀ k, (∀ y0 y1 y2 y3 y4, LeO (grid_Ahead.l0 k y0 y1 y2 y3 y4) (grid_Ahead.l0 (k + 1) y0 y1 y2 y3 y4)) ∧ (∀ y0 y1 y2 y3 y4 y5 y6 y7, LeO (grid_Ahead.l1 k y0 y1 y2 y3 y4 y5 y6 y7) (grid_Ahead.l1 (k + 1) y0 y1 y2 y3 y4 y5 y6 y7))
 | 0 => ⟨fun _ _ _ _ _ r h => by simp [grid_Ahead.l0] at h, fun _ _ _ _ _ _ _ _ r h => by simp [grid_Ahead.l1] at h⟩
 | k + 1 => by
  obtain ⟨ih0, ih1⟩ := grid_Ahead.mono_l k
  refine ⟨?_, ?_⟩
  ·intro y0 y1 y2 y3 y4
   unfold grid_Ahead.l0
   repeat' first
   | (with_reducible exact ih0 _ _ _ _ _)
   | (with_reducible exact ih1 _ _ _ _ _ _ _ _)
   | (with_reducible exact grid_table.mono _ _ _)
   | (with_reducible exact LeO.refl _)
   | (with_reducible exact LeO.none _)
   | (with_reducible refine LeO.ite ?_ ?_)
   | (with_reducible refine LeO.bind ?_ (fun _ => ?_))
   | exact ih0 _ _ _ _ _
   | exact ih1 _ _ _ _ _ _ _ _
   | exact grid_table.mono _ _ _
   | exact LeO.none _
   | refine LeO.ite ?_ ?_
   | refine LeO.bind ?_ (fun _ => ?_)
  ·intro y0 y1 y2 y3 y4 y5 y6 y7
   unfold grid_Ahead.l1
   repeat' first
   | (with_reducible exact ih0 _ _ _ _ _)
   | (with_reducible exact ih1 _ _ _ _ _ _ _ _)
   | (with_reducible exact grid_table.mono _ _ _)
   | (with_reducible exact LeO.refl _)
   | (with_reducible exact LeO.none _)
   | (with_reducible refine LeO.ite ?_ ?_)
   | (with_reducible refine LeO.bind ?_ (fun _ => ?_))
   | exact ih0 _ _ _ _ _
   | exact ih1 _ _ _ _ _ _ _ _
   | exact grid_table.mono _ _ _
   | exact LeO.none _
   | refine LeO.ite ?_ ?_
   | refine LeO.bind ?_ (fun _ => ?_)
theorem grid_Ahead.mono : ∀ a0 a1 k, LeO (grid_Ahead.f k a0 a1) (grid_Ahead.f (k + 1) a0 a1) := by
 intro a0 a1 k
 obtain ⟨ih0, ih1⟩ := grid_Ahead.mono_l k
 unfold grid_Ahead.f
 repeat' first
   | (with_reducible exact ih0 _ _ _ _ _)
   | (with_reducible exact ih1 _ _ _ _ _ _ _ _)
   | (with_reducible exact grid_table.mono _ _ _)
   | (with_reducible exact LeO.refl _)
   | (with_reducible exact LeO.none _)
   | (with_reducible refine LeO.ite ?_ ?_)
   | (with_reducible refine LeO.bind ?_ (fun _ => ?_))
   | exact ih0 _ _ _ _ _
   | exact ih1 _ _ _ _ _ _ _ _
   | exact grid_table.mono _ _ _
   | exact LeO.none _
   | refine LeO.ite ?_ ?_
   | refine LeO.bind ?_ (fun _ => ?_)
def grid_Ahead.T8 : Bool × List (List Nat × List Nat) := (true, [([], []), ([], []), ([0, 1], [0, 1]), ([2], [2]), ([], []), ([], []), ([4, 5], [4, 5]), ([6], [6]), ([3, 7], [3, 7])])
def grid_Ahead.B8 : List Nat := [0, 0, 3, 7, 0, 0, 48, 112, 255]
theorem grid_Ahead.tab8 : rtab .any (opsOf Try.f13 8) = grid_Ahead.T8 := by kernel_rfl
theorem grid_Ahead.bits8 : waitsOk grid_Ahead.T8.2 grid_Ahead.B8 = true := by kernel_rfl
def grid_Ahead.T9 : Bool × List (List Nat × List Nat) := (true, [([], []), ([], []), ([1], [1]), ([0, 2], [0, 2]), ([3], [3]), ([], []), ([5], [5]), ([], []), ([], []), ([7, 8], [7, 8]), ([9], [9]), ([], []), ([10, 11], [10, 11]), ([12], [12]), ([13], [13]), ([4, 6, 0, 1, 2, 3, 4, 5, 6, 7, 8, 9, 10, 11, 12, 13, 14], [4, 6]), ([15, 14, 0, 1, 2, 3, 4, 5, 6, 7, 8, 9, 10, 11, 12, 13, 14], [14, 15])])
def grid_Ahead.B9 : List Nat := [0, 0, 2, 7, 15, 0, 32, 0, 0, 384, 896, 0, 3968, 8064, 16256, 32767, 65535]
theorem grid_Ahead.tab9 : rtab .any (opsOf Try.f13 9) = grid_Ahead.T9 := by kernel_rfl
theorem grid_Ahead.bits9 : waitsOk grid_Ahead.T9.2 grid_Ahead.B9 = true := by kernel_rfl
def grid_Ahead.T10 : Bool × List (List Nat × List Nat) := (true, [([], []), ([], []), ([1], [1]), ([0, 2], [0, 2]), ([3], [3]), ([], []), ([5], [5]), ([], []), ([], []), ([7, 8], [7, 8]), ([9], [9]), ([], []), ([11], [11]), ([10, 12], [10, 12]), ([13], [13]), ([], []), ([], []), ([16], [16]), ([15, 17], [15, 17]), ([18], [18]), ([], []), ([19, 20], [19, 20]), ([21], [21]), ([14, 22], [14, 22]), ([4, 6, 0, 1, 2, 3, 4, 5, 6, 7, 8, 9, 10, 11, 12, 13, 14, 15, 16, 17, 18, 19, 20, 21, 22, 23], [4, 6]), ([24, 23, 0, 1, 2, 3, 4, 5, 6, 7, 8, 9, 10, 11, 12, 13, 14, 15, 16, 17, 18, 19, 20, 21, 22, 23], [23, 24])])
def grid_Ahead.B10 : List Nat := [0, 0, 2, 7, 15, 0, 32, 0, 0, 384, 896, 0, 2048, 8064, 16256, 0, 0, 65536, 229376, 491520, 0, 2064384, 4161536, 8388480, 16777215, 33554431]
theorem grid_Ahead.tab10 : rtab .any (opsOf Try.f13 10) = grid_Ahead.T10 := by kernel_rfl
theorem grid_Ahead.bits10 : waitsOk grid_Ahead.T10.2 grid_Ahead.B10 = true := by kernel_rfl
set_option maxHeartbeats 8000000 in
set_option maxRecDepth 100000 in
theorem grid_Ahead.calls (k : Nat) (A0 : Option Addr) (c0 : Nat) (l0 : List Int) (A1 : Option Addr) (c1 : Nat) (l1 : List Int) (r : List (List Int)) (w : World) (hr0 : Kd.C (Kd.int .i64) w A0 l0.length l0) (hc0 : l0.length ≤ c0) (hr1 : Kd.C (Kd.int .i64) w A1 l1.length l1) (hc1 : l1.length ≤ c1) (h : grid_Ahead.f k l0 l1 = some r) :
  Calls Try.prog 13 #[.slice A0 l0.length c0, .slice A1 l1.length c1] w fun e w' => ∃ v0_ : Value, e = .returned (v0_) ∧ Kd.S (Kd.slice 3 (Kd.int .i64)) 25 w' w.heap.size (fun _ => True) v0_ r ∧ Below w.heap.size w w' := by
 have HR0 := Aside0.mk hr0
 have HC0 := Aside0.mk hc0
 clear hr0 hc0
 have HR1 := Aside0.mk hr1
 have HC1 := Aside0.mk hc1
 clear hr1 hc1
 have HB := Aside0.mk (Below.refl w.heap.size w)
 have H : ((grid_table.f k (l0.length : Int) (l1.length : Int)).bind fun t127 => (grid_Ahead.l0 k l0 l1 t127 (l0.length : Int) 0)) = some r := h
 clear h
 replace H := Option.bind_eq_some_iff.mp H
 obtain ⟨t127, A30, H⟩ := H
 replace H : (grid_Ahead.l0 k l0 l1 t127 (l0.length : Int) 0) = some r := H
 have A3 := Aside0.mk A30
 clear A30
 have H' := Aside0.mk H
 clear H
 go_enter Try.func13, Try.ntmps13
 try dsimp only [List.append]
 go_wp2_with (first | ((first | (with_reducible refine gate_callee (f := 28) rfl ?_); refine goesL_ (some 12) rfl rfl Try.func28 (by kernel_rfl) rfl #[.int .i64 (l0.length : Int), .int .i64 (l1.length : Int)] rfl (by (try simp only [List.map_toArray, List.map_cons, List.map_nil]); first | done | rfl | (simp only [List.length_drop, List.length_take]; rfl)) ?_ | go_at_call 28); (with_reducible refine (grid_table.calls k (l0.length : Int) (l1.length : Int) t127 _ A3.out).mono ?_); rintro e w4 ⟨v128, rfl, ho0, hb⟩; (try refine ⟨_, rfl, ?_⟩); have n0_ := Aside0.mk (Kd.S_lower ho0 (below_size (by repeat (first | (with_reducible first | exact HB.out | apply below_alloc | apply pw_below_drewN | apply below_drew1) | exact HB.out)))); have n1_ := Aside0.mk (below_step (by repeat (first | (with_reducible first | exact HB.out | apply below_alloc | apply pw_below_drewN | apply below_drew1) | exact HB.out)) hb); clear HB; have HO129 := n0_; have HB := n1_; clear n0_ n1_; (try clear hb); (try clear hb2); (try clear hk); (try clear hi); (try clear ho0)))
 go_loopg [15] k (fun kq v15 w' => ∃ (x5_1 : List (List Int)) (x15_1 : Int), v15 = .int .i64 x15_1 ∧ Aside0 (grid_Ahead.l0 kq l0 l1 x5_1 (l0.length : Int) x15_1 = some r) ∧ Aside0 (kq ≤ k) ∧ Aside0 (Kd.S (Kd.slice 3 (Kd.int .i64)) 25 w' w.heap.size (fun _ => True) v128 x5_1) ∧ Aside0 (Below w.heap.size w w'))
 case atStart => exact ⟨(t127), (0), (by first | rfl | (simp; done) | (simp [*]; done)), H', ⟨Nat.le_refl _⟩, ⟨by (with_reducible repeat (first | apply Kd.S_alloc | apply Kd.S_drewN | apply Kd.S_drew)); exact HO129.out⟩, ⟨by repeat (first | (with_reducible first | exact HB.out | apply below_alloc | apply pw_below_drewN | apply below_drew1) | exact HB.out)⟩⟩
 case round =>
  clear H'
  try clear c1
  try clear c2
  try clear p2
  obtain ⟨x5_1, x15_1, rfl, HA, HK1, HO_5, HB⟩ := hrel
  cases gk with
  | zero => exact absurd HA.out (by simp [grid_Ahead.l0])
  | succ k1 =>
   have H := HA.out
   clear HA
   simp only [grid_Ahead.l0] at H
   by_cases c5 : x15_1 < (l0.length : Int)
   ·rw [if_pos c5] at H
    have c5b0 : decide (x15_1 < (l0.length : Int)) = true := decide_eq_true c5
    clear c5
    have H' := Aside0.mk H
    clear H
    go_wp2
    go_loopg [20] k1 (fun kq v20 w' => ∃ (x5_2 : List (List Int)) (x20_2 : Int), v20 = .int .i64 x20_2 ∧ Aside0 (grid_Ahead.l1 kq l0 l1 x5_2 x15_1 (l0.length : Int) x15_1 (l1.length : Int) x20_2 = some r) ∧ Aside0 (kq ≤ k1) ∧ Aside0 (Kd.S (Kd.slice 3 (Kd.int .i64)) 25 w' w.heap.size (fun _ => True) v128 x5_2) ∧ Aside0 (Below w.heap.size w w'))
    case atStart => exact ⟨(x5_1), (0), (by first | rfl | (simp; done) | (simp [*]; done)), H', ⟨Nat.le_refl _⟩, ⟨by (with_reducible repeat (first | apply Kd.S_alloc | apply Kd.S_drewN | apply Kd.S_drew)); exact HO_5.out⟩, ⟨by repeat (first | (with_reducible first | exact HB.out | apply below_alloc | apply pw_below_drewN | apply below_drew1) | exact HB.out)⟩⟩
    case round =>
     clear H'
     try clear c1
     try clear c2
     try clear p2
     try clear c5
     try clear c5b0
     try clear p2
     obtain ⟨x5_2, x20_2, rfl, HA, HK2, HO_5, HB⟩ := hrel
     cases gk with
     | zero => exact absurd HA.out (by simp [grid_Ahead.l1])
     | succ k2 =>
      have H := HA.out
      clear HA
      simp only [grid_Ahead.l1] at H
      by_cases c6 : x20_2 < (l1.length : Int)
      ·rw [if_pos c6] at H
       have c6b0 : decide (x20_2 < (l1.length : Int)) = true := decide_eq_true c6
       clear c6
       by_cases c7 : 0 ≤ x15_1
       ·rw [if_pos c7] at H
        have c7b0 : decide (0 ≤ x15_1) = true := decide_eq_true c7
        clear c7
        by_cases c8 : x15_1 < (l0.length : Int)
        ·rw [if_pos c8] at H
         have c8b0 : decide (x15_1 < (l0.length : Int)) = true := decide_eq_true c8
         clear c8
         by_cases c9 : 0 ≤ x20_2
         ·rw [if_pos c9] at H
          have c9b0 : decide (0 ≤ x20_2) = true := decide_eq_true c9
          clear c9
          by_cases c10 : x20_2 < (l1.length : Int)
          ·rw [if_pos c10] at H
           have c10b0 : decide (x20_2 < (l1.length : Int)) = true := decide_eq_true c10
           clear c10
           by_cases c11 : (rd l0 x15_1) = (rd l1 x20_2)
           ·rw [if_pos c11] at H
            have c11b0 : ((rd l0 x15_1) == (rd l1 x20_2)) = true := beq_iff_eq.mpr c11
            have c11b1 : ((rd l0 x15_1) != (rd l1 x20_2)) = false := bne_eq_false_iff_eq.mpr c11
            clear c11
            obtain ⟨ji12, hji12⟩ : ∃ j_ : Int, (wrap64 (x15_1 + 1)) = j_ := ⟨_, rfl⟩
            replace H : (if 0 ≤ (ji12) then (if (ji12) < (x5_2.length : Int) then (if x15_1 < (x5_2.length : Int) then (if x20_2 < ((rd_L1 x5_2 x15_1).length : Int) then (if 0 ≤ (wrap64 (x20_2 + 1)) then (if (wrap64 (x20_2 + 1)) < ((rd_L1 x5_2 (ji12)).length : Int) then (grid_Ahead.l1 k2 l0 l1 (x5_2.set ((ji12) : Int).toNat ((rd_L1 x5_2 (ji12)).set ((wrap64 (x20_2 + 1)) : Int).toNat (wrap64 ((rd (rd_L1 x5_2 x15_1) x20_2) + 1)))) x15_1 (l0.length : Int) x15_1 (l1.length : Int) (wrap64 (x20_2 + 1))) else (none)) else (none)) else (none)) else (none)) else (none)) else (none)) = some r := by first | (rw [hji12] at H; exact H) | (simp only [hji12] at H ⊢; exact H)
            have hji12w : (IntKind.i64.wrap (x15_1 + 1)) = ji12 := (i64_w _).trans hji12
            by_cases c13 : 0 ≤ (ji12)
            ·rw [if_pos c13] at H
             have c13b0 : decide (0 ≤ (ji12)) = true := decide_eq_true c13
             clear c13
             by_cases c14 : (ji12) < (x5_2.length : Int)
             ·rw [if_pos c14] at H
              have c14b0 : decide ((ji12) < (x5_2.length : Int)) = true := decide_eq_true c14
              clear c14
              by_cases c15 : x15_1 < (x5_2.length : Int)
              ·rw [if_pos c15] at H
               have c15b0 : decide (x15_1 < (x5_2.length : Int)) = true := decide_eq_true c15
               clear c15
               by_cases c16 : x20_2 < ((rd_L1 x5_2 x15_1).length : Int)
               ·rw [if_pos c16] at H
                have c16b0 : decide (x20_2 < ((rd_L1 x5_2 x15_1).length : Int)) = true := decide_eq_true c16
                clear c16
                obtain ⟨ji17, hji17⟩ : ∃ j_ : Int, (wrap64 (x20_2 + 1)) = j_ := ⟨_, rfl⟩
                replace H : (if 0 ≤ (ji17) then (if (ji17) < ((rd_L1 x5_2 (ji12)).length : Int) then (grid_Ahead.l1 k2 l0 l1 (x5_2.set ((ji12) : Int).toNat ((rd_L1 x5_2 (ji12)).set ((ji17) : Int).toNat (wrap64 ((rd (rd_L1 x5_2 x15_1) x20_2) + 1)))) x15_1 (l0.length : Int) x15_1 (l1.length : Int) ji17) else (none)) else (none)) = some r := by first | (rw [hji17] at H; exact H) | (simp only [hji17] at H ⊢; exact H)
                have hji17w : (IntKind.i64.wrap (x20_2 + 1)) = ji17 := (i64_w _).trans hji17
                by_cases c18 : 0 ≤ (ji17)
                ·rw [if_pos c18] at H
                 have c18b0 : decide (0 ≤ (ji17)) = true := decide_eq_true c18
                 clear c18
                 by_cases c19 : (ji17) < ((rd_L1 x5_2 (ji12)).length : Int)
                 ·rw [if_pos c19] at H
                  have c19b0 : decide ((ji17) < ((rd_L1 x5_2 (ji12)).length : Int)) = true := decide_eq_true c19
                  clear c19
                  obtain ⟨y135, hy135⟩ : ∃ y_ : List Int, y_ = ((rd_L1 x5_2 (ji12)).set ((ji17) : Int).toNat (wrap64 ((rd (rd_L1 x5_2 x15_1) x20_2) + 1))) := ⟨_, rfl⟩
                  replace H : (grid_Ahead.l1 k2 l0 l1 (x5_2.set ((ji12) : Int).toNat y135) x15_1 (l0.length : Int) x15_1 (l1.length : Int) ji17) = some r := by first | (rw [hy135]; with_reducible exact H) | (have H2_ := (Option.bind_some _ _).symm.trans H; rw [hy135]; with_reducible exact H2_) | (have H2_ := (Option.bind_some _ _).symm.trans H; with_reducible exact H2_) | with_reducible exact H | (rw [hy135]; exact H) | exact H
                  have Ny135 := Aside0.mk hy135
                  clear hy135
                  obtain ⟨y137, hy137⟩ : ∃ y_ : List (List Int), y_ = (x5_2.set ((ji12) : Int).toNat y135) := ⟨_, rfl⟩
                  replace H : (grid_Ahead.l1 k2 l0 l1 y137 x15_1 (l0.length : Int) x15_1 (l1.length : Int) ji17) = some r := by first | (rw [hy137]; with_reducible exact H) | (have H2_ := (Option.bind_some _ _).symm.trans H; rw [hy137]; with_reducible exact H2_) | (have H2_ := (Option.bind_some _ _).symm.trans H; with_reducible exact H2_) | with_reducible exact H | (rw [hy137]; exact H) | exact H
                  have Ny137 := Aside0.mk hy137
                  clear hy137
                  have H' := Aside0.mk H
                  clear H
                  try go_wp2
                  have n0_ := Aside0.mk (Kd.S_drew HO_5.out)
                  have n1_ := Aside0.mk (below_drew1 HB.out)
                  clear HO_5
                  clear HB
                  have HO_5 := n0_
                  have HB := n1_
                  clear n0_ n1_
                  have p130 : 0 ≤ (x15_1 : Int) := of_decide_eq_true (by first | (with_reducible assumption) | assumption)
                  have q130 : x15_1 < (l0.length : Int) := of_decide_eq_true (by first | (with_reducible assumption) | assumption)
                  obtain ⟨ad130, e130, hx130_0⟩ := Kd.at_int HR0.out x15_1 p130 q130
                  have hw130_0 := hx130_0
                  cases e130
                  replace hx130_0 := (HB.out.cell (World.block_lt_of_cell? w _ hx130_0)).trans hx130_0
                  replace p130 := eq_true p130
                  replace q130 := eq_true q130
                  have p131 : 0 ≤ (x20_2 : Int) := of_decide_eq_true (by first | (with_reducible assumption) | assumption)
                  have q131 : x20_2 < (l1.length : Int) := of_decide_eq_true (by first | (with_reducible assumption) | assumption)
                  obtain ⟨ad131, e131, hx131_0⟩ := Kd.at_int HR1.out x20_2 p131 q131
                  have hw131_0 := hx131_0
                  cases e131
                  replace hx131_0 := (HB.out.cell (World.block_lt_of_cell? w _ hx131_0)).trans hx131_0
                  replace p131 := eq_true p131
                  replace q131 := eq_true q131
                  refine start_ (n := 9) (S := fun w' => w'.cell? (ad130.add (x15_1).toNat) = some (.int .i64 (rd l0 x15_1)) ∧ w'.cell? (ad131.add (x20_2).toNat) = some (.int .i64 (rd l1 x20_2))) (ds := []) #[N,N,N,N,N,N,N,N,N] (by kernel_rfl) rfl rfl ⟨((HB.out.cell (World.block_lt_of_cell? w _ hw130_0)).trans hw130_0), ((HB.out.cell (World.block_lt_of_cell? w _ hw131_0)).trans hw131_0)⟩ (fun hHeld => ?_); refine with_tabW grid_Ahead.tab8 grid_Ahead.bits8 (fun HT_ HW_ => ?_)
                  generalize wr.drew = w21 at HO_5 HB hx130_0 hx131_0 hHeld ⊢
                  refine pure_ (i := 0) (N := some 23) (v := ?_) (a' := ?_) #[Y,N,N,N,N,N,N,N,N] rfl rfl (any_of HT_.out (by kernel_rfl)) (fun _ _ _ h => h) (Or.inl ⟨by rfl, ?_⟩) ?_ ?_; rotate_left
                  ·intro w'; go_simp; with_reducible rfl
                  rotate_left
                  ·simp only [Act.put, sA,sB,sC, i64_w, i32_w]; rfl
                  refine pure_ (i := 1) (N := some 24) (v := ?_) (a' := ?_) #[Y,Y,N,N,N,N,N,N,N] rfl rfl (any_of HT_.out (by kernel_rfl)) (fun _ _ _ h => h) (Or.inl ⟨by rfl, ?_⟩) ?_ ?_; rotate_left
                  ·intro w'; go_simp; with_reducible rfl
                  rotate_left
                  ·simp only [Act.put, sA,sB,sC, i64_w, i32_w]; rfl
                  refine pure_ (i := 2) (N := some 25) (v := ?_) (a' := ?_) #[Y,Y,Y,N,N,N,N,N,N] rfl rfl (any_of HT_.out (by kernel_rfl)) (fun _ _ _ h => h) (Or.inl ⟨by rfl, ?_⟩) ?_ ?_; rotate_left
                  ·intro w'; go_simp; with_reducible rfl
                  rotate_left
                  ·simp only [Act.put, sA,sB,sC, i64_w, i32_w]; rfl
                  refine pure_ (i := 4) (N := some 27) (v := ?_) (a' := ?_) #[Y,Y,Y,N,Y,N,N,N,N] rfl rfl (any_of HT_.out (by kernel_rfl)) (fun _ _ _ h => h) (Or.inl ⟨by rfl, ?_⟩) ?_ ?_; rotate_left
                  ·intro w'; go_simp; with_reducible rfl
                  rotate_left
                  ·simp only [Act.put, sA,sB,sC, i64_w, i32_w]; rfl
                  refine pure_ (i := 5) (N := some 28) (v := ?_) (a' := ?_) #[Y,Y,Y,N,Y,Y,N,N,N] rfl rfl (any_of HT_.out (by kernel_rfl)) (fun _ _ _ h => h) (Or.inl ⟨by rfl, ?_⟩) ?_ ?_; rotate_left
                  ·intro w'; go_simp; with_reducible rfl
                  rotate_left
                  ·simp only [Act.put, sA,sB,sC, i64_w, i32_w]; rfl
                  refine pure_ (i := 6) (N := some 29) (v := ?_) (a' := ?_) #[Y,Y,Y,N,Y,Y,Y,N,N] rfl rfl (any_of HT_.out (by kernel_rfl)) (fun _ _ _ h => h) (Or.inl ⟨by rfl, ?_⟩) ?_ ?_; rotate_left
                  ·intro w'; go_simp; with_reducible rfl
                  rotate_left
                  ·simp only [Act.put, sA,sB,sC, i64_w, i32_w]; rfl
                  refine take_ (i := 3) (N := some 26) (v := ?_) (a' := ?_) #[Y,Y,Y,Y,Y,Y,Y,N,N] rfl rfl (take_ofW HT_.out HW_.out (by kernel_rfl)) (fun _ _ _ h => h) (Or.inl ⟨by rfl, ?_⟩) hHeld ?_ ?_; rotate_left
                  ·rintro w' ⟨s0, s1⟩; go_simp; with_reducible rfl
                  rotate_left
                  ·simp only [Act.put, sA,sB,sC, i64_w, i32_w]; rfl
                  refine take_ (i := 7) (N := some 30) (v := ?_) (a' := ?_) #[Y,Y,Y,Y,Y,Y,Y,Y,N] rfl rfl (take_ofW HT_.out HW_.out (by kernel_rfl)) (fun _ _ _ h => h) (Or.inl ⟨by rfl, ?_⟩) hHeld ?_ ?_; rotate_left
                  ·rintro w' ⟨s0, s1⟩; go_simp; with_reducible rfl
                  rotate_left
                  ·simp only [Act.put, sA,sB,sC, i64_w, i32_w]; rfl
                  refine pure_ (i := 8) (N := some 31) (v := ?_) (a' := ?_) #[Y,Y,Y,Y,Y,Y,Y,Y,Y] rfl rfl (any_of HT_.out (by kernel_rfl)) (fun _ _ _ h => h) (Or.inl ⟨by rfl, ?_⟩) ?_ ?_; rotate_left
                  ·intro w'; go_simp; with_reducible rfl
                  rotate_left
                  ·simp only [Act.put, sA,sB,sC, i64_w, i32_w]; rfl
                  refine done_ (done_of HT_.out (by kernel_rfl)) ?_
                  try go_wp2
                  have n0_ := Aside0.mk (Kd.S_drew HO_5.out)
                  have n1_ := Aside0.mk (below_drew1 HB.out)
                  clear HO_5
                  clear HB
                  have HO_5 := n0_
                  have HB := n1_
                  clear n0_ n1_
                  obtain ⟨Ao23, co23, eo23⟩ := Kd.S_slice HO_5.out
                  (first | subst eo23 | (injection eo23 with f1_ f2_ f3_; have f4_ := f1_.symm; have f5_ := f3_.symm; clear f1_ f2_ f3_; subst f4_; subst f5_))
                  have p132 : 0 ≤ ((ji12) : Int) := of_decide_eq_true (by first | (with_reducible assumption) | assumption)
                  have q132 : (ji12) < (x5_2.length : Int) := of_decide_eq_true (by first | (with_reducible assumption) | assumption)
                  try (obtain ⟨Ap132, cp132, ep132⟩ := Kd.S_slice HO_5.out; subst ep132)
                  obtain ⟨ad132, A132_0, c132_0, e132, hx132_0, hl132_0, hi132_0⟩ := at_L1 (Kd.S_reads' HO_5.out).2.2 (ji12) p132 q132
                  cases e132
                  obtain ⟨ce132, hce132, hMe132, hcc132⟩ := Kd.S_get HO_5.out [] (ji12) p132 (by first | exact q132 | exact of_decide_eq_true (by first | (with_reducible assumption) | assumption) | (have e_ := (Kd.S_reads' HO_5.out).1; omega))
                  obtain ⟨ve132_0, rfl, ge132_0⟩ := hMe132
                  have hv132_0 := hcc132 0 _ rfl
                  rw [Nat.add_zero, show ((Kd.slice 3 (Kd.int .i64))).sz = 1 from rfl, Nat.mul_one] at hv132_0
                  replace hv132_0 := Option.some.inj (hv132_0.symm.trans hx132_0)
                  rw [hv132_0] at ge132_0
                  have HL132_0 := Aside0.mk (show Kd.R (Kd.int .i64) 3 _ _ _ _ (rd_L1 x5_2 (ji12)) from ge132_0)
                  clear hv132_0 ge132_0
                  have HX132_0 := Aside0.mk hx132_0
                  clear hcc132 hce132
                  have HR132_0 := Aside0.mk hi132_0
                  have HC132_0 := Aside0.mk hl132_0
                  clear hi132_0 hl132_0
                  replace p132 := eq_true p132
                  replace q132 := eq_true q132
                  have p133 : 0 ≤ (x15_1 : Int) := of_decide_eq_true (by first | (with_reducible assumption) | assumption)
                  have q133 : x15_1 < (x5_2.length : Int) := of_decide_eq_true (by first | (with_reducible assumption) | assumption)
                  try (obtain ⟨Ap133, cp133, ep133⟩ := Kd.S_slice HO_5.out; subst ep133)
                  obtain ⟨ad133, A133_0, c133_0, e133, hx133_0, hl133_0, hi133_0⟩ := at_L1 (Kd.S_reads' HO_5.out).2.2 x15_1 p133 q133
                  obtain rfl : ad132 = ad133 := (by injection e133)
                  obtain ⟨ce133, hce133, hMe133, hcc133⟩ := Kd.S_get HO_5.out [] x15_1 p133 (by first | exact q133 | exact of_decide_eq_true (by first | (with_reducible assumption) | assumption) | (have e_ := (Kd.S_reads' HO_5.out).1; omega))
                  obtain ⟨ve133_0, rfl, ge133_0⟩ := hMe133
                  have hv133_0 := hcc133 0 _ rfl
                  rw [Nat.add_zero, show ((Kd.slice 3 (Kd.int .i64))).sz = 1 from rfl, Nat.mul_one] at hv133_0
                  replace hv133_0 := Option.some.inj (hv133_0.symm.trans hx133_0)
                  rw [hv133_0] at ge133_0
                  have HL133_0 := Aside0.mk (show Kd.R (Kd.int .i64) 3 _ _ _ _ (rd_L1 x5_2 x15_1) from ge133_0)
                  clear hv133_0 ge133_0
                  have HX133_0 := Aside0.mk hx133_0
                  clear hcc133 hce133
                  have HR133_0 := Aside0.mk hi133_0
                  have HC133_0 := Aside0.mk hl133_0
                  clear hi133_0 hl133_0
                  replace p133 := eq_true p133
                  replace q133 := eq_true q133
                  have p134 : 0 ≤ (x20_2 : Int) := of_decide_eq_true (by first | (with_reducible assumption) | assumption)
                  have q134 : x20_2 < ((rd_L1 x5_2 x15_1).length : Int) := of_decide_eq_true (by first | (with_reducible assumption) | assumption)
                  obtain ⟨ad134, e134, hx134_0⟩ := Kd.at_int (by repeat (first | (with_reducible exact HR133_0.out) | (with_reducible refine Kd.C_alloc ?_ _) | (with_reducible refine Kd.C_drewN ?_ _) | (with_reducible refine Kd.C_drew ?_) | exact HR133_0.out)) x20_2 p134 q134
                  cases e134
                  replace p134 := eq_true p134
                  replace q134 := eq_true q134
                  have p20 : 0 ≤ ((ji17) : Int) := of_decide_eq_true (by first | (with_reducible assumption) | assumption)
                  have q20 : ((ji17) : Int) < (((rd_L1 x5_2 (ji12)).length : Int) : Int) := of_decide_eq_true (by first | (with_reducible assumption) | assumption)
                  obtain ⟨go20, co20, eo20, gb20, gl20, cl20, HG20⟩ := Kd.R_form HL132_0.out (by omega)
                  (first | cases eo20 | (injection eo20 with ea_ en_ ec_; (first | subst ea_ | (injection ea_ with ea_; subst ea_)); subst ec_; clear en_))
                  have GB20 := Aside0.mk gb20
                  have GG20 := Aside0.mk HG20
                  clear gb20 gl20 HG20
                  obtain ⟨hx20_0, hf20_0⟩ := Kd.R_celln 0 HL132_0.out ((ji17) : Int) p20 q20
                  replace p20 := eq_true p20
                  replace q20 := eq_true q20
                  have hq24 : ((ji12) : Int) < (x5_2.length : Int) := (by have h_ : ((ji12) : Int) < ((x5_2.length : Int) : Int) := of_decide_eq_true (by first | (with_reducible assumption) | assumption); first | exact h_ | (have e_ := (Kd.S_reads' HO_5.out).1; omega) | simpa only [List.length_set, List.length_set] using h_)
                  obtain ⟨oki24, ce24, hcl24, hM24, hcc24, hok24, hbk24⟩ := Kd.S_borrow HO_5.out [] ((ji12) : Int) (of_decide_eq_true (by first | (with_reducible assumption) | assumption)) hq24
                  obtain ⟨ve24_0, rfl, ge24_0⟩ := hM24
                  have hv24 := hcc24 0 _ rfl
                  rw [Nat.add_zero, show ((Kd.slice 3 (Kd.int .i64))).sz = 1 from rfl, Nat.mul_one] at hv24
                  replace hv24 := Option.some.inj (hv24.symm.trans HX132_0.out)
                  subst hv24
                  clear hcc24 hcl24
                  replace ge24_0 := (show Kd.R (Kd.int .i64) 3 _ _ _ _ (rd_L1 x5_2 (ji12)) from ge24_0)
                  have HP24 := Kd.R_putg ge24_0 ((ji17) : Int) (wrap64 ((rd (rd_L1 x5_2 x15_1) x20_2) + 1))
                  rw [← Ny135.out] at HP24
                  have HS24 := hbk24 HP24.2 (fun k_ e_ => by injection e_ with e_; subst e_; exact ge24_0.1 _ rfl) (x' := y135) (Kd.M_row HP24.1)
                  rw [← Ny137.out] at HS24
                  have HQ24 := Aside0.mk HS24
                  clear HP24 HS24 hbk24 hok24
                  refine start_ (n := 17) (S := fun w' => w'.cell? (ad132.add ((ji12)).toNat) = some (.slice (some ⟨go20, 0, none⟩) (rd_L1 x5_2 (ji12)).length c132_0) ∧ w'.cell? (ad132.add (x15_1).toNat) = some (.slice (some ad134) (rd_L1 x5_2 x15_1).length c133_0) ∧ w'.cell? (ad134.add (x20_2).toNat) = some (.int .i64 (rd (rd_L1 x5_2 x15_1) x20_2))) (ds := [16]) #[N,N,N,N,N,N,N,N,N,N,N,N,N,N,N,N,N] (by kernel_rfl) rfl rfl ⟨hx132_0, hx133_0, hx134_0⟩ (fun hHeld => ?_); refine with_tabW grid_Ahead.tab9 grid_Ahead.bits9 (fun HT_ HW_ => ?_)
                  generalize w21.drew = w22 at HO_5 HB GG20 HL132_0 HL133_0 HQ24 HR132_0 HR133_0 HX132_0 HX133_0 hf20_0 hx132_0 hx133_0 hx134_0 hx20_0 hHeld ⊢
                  refine pure_ (i := 0) (N := some 32) (v := ?_) (a' := ?_) #[Y,N,N,N,N,N,N,N,N,N,N,N,N,N,N,N,N] rfl rfl (any_of HT_.out (by kernel_rfl)) (fun _ _ _ h => h) (Or.inl ⟨by rfl, ?_⟩) ?_ ?_; rotate_left
                  ·intro w'; go_simp; with_reducible rfl
                  rotate_left
                  ·simp only [Act.put, sA,sB,sC, i64_w, i32_w]; rfl
                  refine pure_ (i := 1) (N := some 33) (v := ?_) (a' := ?_) #[Y,Y,N,N,N,N,N,N,N,N,N,N,N,N,N,N,N] rfl rfl (any_of HT_.out (by kernel_rfl)) (fun _ _ _ h => h) (Or.inl ⟨by rfl, ?_⟩) ?_ ?_; rotate_left
                  ·intro w'; go_simp; with_reducible rfl
                  rotate_left
                  ·simp only [Act.put, sA,sB,sC, i64_w, i32_w]; rfl
                  refine pure_ (i := 2) (N := some 34) (v := ?_) (a' := ?_) #[Y,Y,Y,N,N,N,N,N,N,N,N,N,N,N,N,N,N] rfl rfl (any_of HT_.out (by kernel_rfl)) (fun _ _ _ h => h) (Or.inl ⟨by rfl, ?_⟩) ?_ ?_; rotate_left
                  ·intro w'; go_simp; with_reducible rfl
                  rotate_left
                  ·simp only [Act.put, sA,sB,sC, i64_w, i32_w]; rfl
                  refine pure_ (i := 3) (N := some 35) (v := ?_) (a' := ?_) #[Y,Y,Y,Y,N,N,N,N,N,N,N,N,N,N,N,N,N] rfl rfl (any_of HT_.out (by kernel_rfl)) (fun _ _ _ h => h) (Or.inl ⟨by rfl, ?_⟩) ?_ ?_; rotate_left
                  ·intro w'; go_simp; with_reducible rfl
                  rotate_left
                  ·simp only [Act.put, sA,sB,sC, i64_w, i32_w]; rfl
                  refine pure_ (i := 5) (N := some 37) (v := ?_) (a' := ?_) #[Y,Y,Y,Y,N,Y,N,N,N,N,N,N,N,N,N,N,N] rfl rfl (any_of HT_.out (by kernel_rfl)) (fun _ _ _ h => h) (Or.inl ⟨by rfl, ?_⟩) ?_ ?_; rotate_left
                  ·intro w'; go_simp; with_reducible rfl
                  rotate_left
                  ·simp only [Act.put, sA,sB,sC, i64_w, i32_w]; rfl
                  refine pure_ (i := 6) (N := some 38) (v := ?_) (a' := ?_) #[Y,Y,Y,Y,N,Y,Y,N,N,N,N,N,N,N,N,N,N] rfl rfl (any_of HT_.out (by kernel_rfl)) (fun _ _ _ h => h) (Or.inl ⟨by rfl, ?_⟩) ?_ ?_; rotate_left
                  ·intro w'; go_simp; with_reducible rfl
                  rotate_left
                  ·simp only [Act.put, sA,sB,sC, i64_w, i32_w]; rfl
                  refine pure_ (i := 7) (N := some 39) (v := ?_) (a' := ?_) #[Y,Y,Y,Y,N,Y,Y,Y,N,N,N,N,N,N,N,N,N] rfl rfl (any_of HT_.out (by kernel_rfl)) (fun _ _ _ h => h) (Or.inl ⟨by rfl, ?_⟩) ?_ ?_; rotate_left
                  ·intro w'; go_simp; with_reducible rfl
                  rotate_left
                  ·simp only [Act.put, sA,sB,sC, i64_w, i32_w]; rfl
                  refine pure_ (i := 8) (N := some 40) (v := ?_) (a' := ?_) #[Y,Y,Y,Y,N,Y,Y,Y,Y,N,N,N,N,N,N,N,N] rfl rfl (any_of HT_.out (by kernel_rfl)) (fun _ _ _ h => h) (Or.inl ⟨by rfl, ?_⟩) ?_ ?_; rotate_left
                  ·intro w'; go_simp; with_reducible rfl
                  rotate_left
                  ·simp only [Act.put, sA,sB,sC, i64_w, i32_w]; rfl
                  refine pure_ (i := 9) (N := some 41) (v := ?_) (a' := ?_) #[Y,Y,Y,Y,N,Y,Y,Y,Y,Y,N,N,N,N,N,N,N] rfl rfl (any_of HT_.out (by kernel_rfl)) (fun _ _ _ h => h) (Or.inl ⟨by rfl, ?_⟩) ?_ ?_; rotate_left
                  ·intro w'; go_simp; with_reducible rfl
                  rotate_left
                  ·simp only [Act.put, sA,sB,sC, i64_w, i32_w]; rfl
                  refine pure_ (i := 11) (N := some 43) (v := ?_) (a' := ?_) #[Y,Y,Y,Y,N,Y,Y,Y,Y,Y,N,Y,N,N,N,N,N] rfl rfl (any_of HT_.out (by kernel_rfl)) (fun _ _ _ h => h) (Or.inl ⟨by rfl, ?_⟩) ?_ ?_; rotate_left
                  ·intro w'; go_simp; with_reducible rfl
                  rotate_left
                  ·simp only [Act.put, sA,sB,sC, i64_w, i32_w]; rfl
                  refine take_ (i := 4) (N := some 36) (v := ?_) (a' := ?_) #[Y,Y,Y,Y,Y,Y,Y,Y,Y,Y,N,Y,N,N,N,N,N] rfl rfl (take_ofW HT_.out HW_.out (by kernel_rfl)) (fun _ _ _ h => h) (Or.inl ⟨by rfl, ?_⟩) hHeld ?_ ?_; rotate_left
                  ·rintro w' ⟨s0, s1, s2⟩; go_simp; with_reducible rfl
                  rotate_left
                  ·simp only [Act.put, sA,sB,sC, i64_w, i32_w]; rfl
                  refine take_ (i := 10) (N := some 42) (v := ?_) (a' := ?_) #[Y,Y,Y,Y,Y,Y,Y,Y,Y,Y,Y,Y,N,N,N,N,N] rfl rfl (take_ofW HT_.out HW_.out (by kernel_rfl)) (fun _ _ _ h => h) (Or.inl ⟨by rfl, ?_⟩) hHeld ?_ ?_; rotate_left
                  ·rintro w' ⟨s0, s1, s2⟩; go_simp; with_reducible rfl
                  rotate_left
                  ·simp only [Act.put, sA,sB,sC, i64_w, i32_w]; rfl
                  refine pure_ (i := 12) (N := some 44) (v := ?_) (a' := ?_) #[Y,Y,Y,Y,Y,Y,Y,Y,Y,Y,Y,Y,Y,N,N,N,N] rfl rfl (any_of HT_.out (by kernel_rfl)) (fun _ _ _ h => h) (Or.inl ⟨by rfl, ?_⟩) ?_ ?_; rotate_left
                  ·intro w'; go_simp; with_reducible rfl
                  rotate_left
                  ·simp only [Act.put, sA,sB,sC, i64_w, i32_w]; rfl
                  refine take_ (i := 13) (N := some 45) (v := ?_) (a' := ?_) #[Y,Y,Y,Y,Y,Y,Y,Y,Y,Y,Y,Y,Y,Y,N,N,N] rfl rfl (take_ofW HT_.out HW_.out (by kernel_rfl)) (fun _ _ _ h => h) (Or.inl ⟨by rfl, ?_⟩) hHeld ?_ ?_; rotate_left
                  ·rintro w' ⟨s0, s1, s2⟩; go_simp; with_reducible rfl
                  rotate_left
                  ·simp only [Act.put, sA,sB,sC, i64_w, i32_w]; rfl
                  refine pure_ (i := 14) (N := some 46) (v := ?_) (a' := ?_) #[Y,Y,Y,Y,Y,Y,Y,Y,Y,Y,Y,Y,Y,Y,Y,N,N] rfl rfl (any_of HT_.out (by kernel_rfl)) (fun _ _ _ h => h) (Or.inl ⟨by rfl, ?_⟩) ?_ ?_; rotate_left
                  ·intro w'; go_simp; with_reducible rfl
                  rotate_left
                  ·simp only [Act.put, sA,sB,sC, i64_w, i32_w]; rfl
                  refine pure_ (i := 15) (N := some 47) (v := ?_) (a' := ?_) #[Y,Y,Y,Y,Y,Y,Y,Y,Y,Y,Y,Y,Y,Y,Y,Y,N] rfl rfl (any_of HT_.out (by kernel_rfl)) (fun _ _ _ h => h) (Or.inl ⟨by rfl, ?_⟩) ?_ ?_; rotate_left
                  ·intro w'; go_simp; with_reducible rfl
                  rotate_left
                  ·simp only [Act.put, sA,sB,sC, i64_w, i32_w]; rfl
                  refine last_ (i := 16) (N := none) #[Y,Y,Y,Y,Y,Y,Y,Y,Y,Y,Y,Y,Y,Y,Y,Y,Y] rfl rfl (one_of HT_.out (by kernel_rfl)) (by decide) (fun K hK => ?_)
                  refine skip_ (w1 := ?_) (by rfl) rfl ?_ ?_
                  rotate_left
                  ·go_simp; rfl
                  refine hK.out _ _ ?_
                  clear hK K
                  refine done_ (done_of HT_.out (by kernel_rfl)) ?_
                  try go_wp2
                  go_roundg k2
                  case measure => have := HK1.out; have := HK2.out; omega
                  case rel => exact ⟨(y137), (ji17), (by first | rfl | (simp; done) | (simp only [← hji17] <;> (first | rfl | simp)) | (simp [*]; done)), H', ⟨by have := HK1.out; have := HK2.out; omega⟩, ⟨by (with_reducible repeat (first | apply Kd.S_alloc | apply Kd.S_drewN | apply Kd.S_drew)); exact HQ24.out⟩, ⟨by repeat (first | (with_reducible first | exact HB.out | apply below_alloc | apply pw_below_drewN | apply below_drew1 | refine below_set ?_ GB20.out) | exact HB.out)⟩⟩
                 ·rw [if_neg c19] at H
                  exact absurd H (by simp)
                ·rw [if_neg c18] at H
                 exact absurd H (by simp)
               ·rw [if_neg c16] at H
                exact absurd H (by simp)
              ·rw [if_neg c15] at H
               exact absurd H (by simp)
             ·rw [if_neg c14] at H
              exact absurd H (by simp)
            ·rw [if_neg c13] at H
             exact absurd H (by simp)
           ·rw [if_neg c11] at H
            have c11b0 : ((rd l0 x15_1) == (rd l1 x20_2)) = false := beq_eq_false_iff_ne.mpr c11
            have c11b1 : ((rd l0 x15_1) != (rd l1 x20_2)) = true := bne_iff_ne.mpr c11
            obtain ⟨ji26, hji26⟩ : ∃ j_ : Int, (wrap64 (x15_1 + 1)) = j_ := ⟨_, rfl⟩
            replace H : (if 0 ≤ (ji26) then (if (ji26) < (x5_2.length : Int) then (if x15_1 < (x5_2.length : Int) then (if 0 ≤ (wrap64 (x20_2 + 1)) then (if (wrap64 (x20_2 + 1)) < ((rd_L1 x5_2 x15_1).length : Int) then (if x20_2 < ((rd_L1 x5_2 (ji26)).length : Int) then (if (wrap64 (x20_2 + 1)) < ((rd_L1 x5_2 (ji26)).length : Int) then (grid_Ahead.l1 k2 l0 l1 (x5_2.set ((ji26) : Int).toNat ((rd_L1 x5_2 (ji26)).set ((wrap64 (x20_2 + 1)) : Int).toNat (mx (rd (rd_L1 x5_2 x15_1) (wrap64 (x20_2 + 1))) (rd (rd_L1 x5_2 (ji26)) x20_2)))) x15_1 (l0.length : Int) x15_1 (l1.length : Int) (wrap64 (x20_2 + 1))) else (none)) else (none)) else (none)) else (none)) else (none)) else (none)) else (none)) = some r := by first | (rw [hji26] at H; exact H) | (simp only [hji26] at H ⊢; exact H)
            have hji26w : (IntKind.i64.wrap (x15_1 + 1)) = ji26 := (i64_w _).trans hji26
            by_cases c27 : 0 ≤ (ji26)
            ·rw [if_pos c27] at H
             have c27b0 : decide (0 ≤ (ji26)) = true := decide_eq_true c27
             clear c27
             by_cases c28 : (ji26) < (x5_2.length : Int)
             ·rw [if_pos c28] at H
              have c28b0 : decide ((ji26) < (x5_2.length : Int)) = true := decide_eq_true c28
              clear c28
              by_cases c29 : x15_1 < (x5_2.length : Int)
              ·rw [if_pos c29] at H
               have c29b0 : decide (x15_1 < (x5_2.length : Int)) = true := decide_eq_true c29
               clear c29
               obtain ⟨ji30, hji30⟩ : ∃ j_ : Int, (wrap64 (x20_2 + 1)) = j_ := ⟨_, rfl⟩
               replace H : (if 0 ≤ (ji30) then (if (ji30) < ((rd_L1 x5_2 x15_1).length : Int) then (if x20_2 < ((rd_L1 x5_2 (ji26)).length : Int) then (if (ji30) < ((rd_L1 x5_2 (ji26)).length : Int) then (grid_Ahead.l1 k2 l0 l1 (x5_2.set ((ji26) : Int).toNat ((rd_L1 x5_2 (ji26)).set ((ji30) : Int).toNat (mx (rd (rd_L1 x5_2 x15_1) (ji30)) (rd (rd_L1 x5_2 (ji26)) x20_2)))) x15_1 (l0.length : Int) x15_1 (l1.length : Int) ji30) else (none)) else (none)) else (none)) else (none)) = some r := by first | (rw [hji30] at H; exact H) | (simp only [hji30] at H ⊢; exact H)
               have hji30w : (IntKind.i64.wrap (x20_2 + 1)) = ji30 := (i64_w _).trans hji30
               by_cases c31 : 0 ≤ (ji30)
               ·rw [if_pos c31] at H
                have c31b0 : decide (0 ≤ (ji30)) = true := decide_eq_true c31
                clear c31
                by_cases c32 : (ji30) < ((rd_L1 x5_2 x15_1).length : Int)
                ·rw [if_pos c32] at H
                 have c32b0 : decide ((ji30) < ((rd_L1 x5_2 x15_1).length : Int)) = true := decide_eq_true c32
                 clear c32
                 by_cases c33 : x20_2 < ((rd_L1 x5_2 (ji26)).length : Int)
                 ·rw [if_pos c33] at H
                  have c33b0 : decide (x20_2 < ((rd_L1 x5_2 (ji26)).length : Int)) = true := decide_eq_true c33
                  clear c33
                  obtain ⟨ji34, hji34⟩ : ∃ j_ : Int, (mx (rd (rd_L1 x5_2 x15_1) (ji30)) (rd (rd_L1 x5_2 (ji26)) x20_2)) = j_ := ⟨_, rfl⟩
                  replace H : (if (ji30) < ((rd_L1 x5_2 (ji26)).length : Int) then (grid_Ahead.l1 k2 l0 l1 (x5_2.set ((ji26) : Int).toNat ((rd_L1 x5_2 (ji26)).set ((ji30) : Int).toNat (ji34))) x15_1 (l0.length : Int) x15_1 (l1.length : Int) ji30) else (none)) = some r := by first | (rw [hji34] at H; exact H) | (simp only [hji34] at H ⊢; exact H)
                  have hji34_ : (if (rd (rd_L1 x5_2 x15_1) (ji30)) < (rd (rd_L1 x5_2 (ji26)) x20_2) then (rd (rd_L1 x5_2 (ji26)) x20_2) else (rd (rd_L1 x5_2 x15_1) (ji30))) = ji34 := hji34
                  by_cases c35 : (ji30) < ((rd_L1 x5_2 (ji26)).length : Int)
                  ·rw [if_pos c35] at H
                   have c35b0 : decide ((ji30) < ((rd_L1 x5_2 (ji26)).length : Int)) = true := decide_eq_true c35
                   clear c35
                   obtain ⟨y143, hy143⟩ : ∃ y_ : List Int, y_ = ((rd_L1 x5_2 (ji26)).set ((ji30) : Int).toNat (ji34)) := ⟨_, rfl⟩
                   replace H : (grid_Ahead.l1 k2 l0 l1 (x5_2.set ((ji26) : Int).toNat y143) x15_1 (l0.length : Int) x15_1 (l1.length : Int) ji30) = some r := by first | (rw [hy143]; with_reducible exact H) | (have H2_ := (Option.bind_some _ _).symm.trans H; rw [hy143]; with_reducible exact H2_) | (have H2_ := (Option.bind_some _ _).symm.trans H; with_reducible exact H2_) | with_reducible exact H | (rw [hy143]; exact H) | exact H
                   have Ny143 := Aside0.mk hy143
                   clear hy143
                   obtain ⟨y145, hy145⟩ : ∃ y_ : List (List Int), y_ = (x5_2.set ((ji26) : Int).toNat y143) := ⟨_, rfl⟩
                   replace H : (grid_Ahead.l1 k2 l0 l1 y145 x15_1 (l0.length : Int) x15_1 (l1.length : Int) ji30) = some r := by first | (rw [hy145]; with_reducible exact H) | (have H2_ := (Option.bind_some _ _).symm.trans H; rw [hy145]; with_reducible exact H2_) | (have H2_ := (Option.bind_some _ _).symm.trans H; with_reducible exact H2_) | with_reducible exact H | (rw [hy145]; exact H) | exact H
                   have Ny145 := Aside0.mk hy145
                   clear hy145
                   have H' := Aside0.mk H
                   clear H
                   try go_wp2
                   have n0_ := Aside0.mk (Kd.S_drew HO_5.out)
                   have n1_ := Aside0.mk (below_drew1 HB.out)
                   clear HO_5
                   clear HB
                   have HO_5 := n0_
                   have HB := n1_
                   clear n0_ n1_
                   have p130 : 0 ≤ (x15_1 : Int) := of_decide_eq_true (by first | (with_reducible assumption) | assumption)
                   have q130 : x15_1 < (l0.length : Int) := of_decide_eq_true (by first | (with_reducible assumption) | assumption)
                   obtain ⟨ad130, e130, hx130_0⟩ := Kd.at_int HR0.out x15_1 p130 q130
                   have hw130_0 := hx130_0
                   cases e130
                   replace hx130_0 := (HB.out.cell (World.block_lt_of_cell? w _ hx130_0)).trans hx130_0
                   replace p130 := eq_true p130
                   replace q130 := eq_true q130
                   have p131 : 0 ≤ (x20_2 : Int) := of_decide_eq_true (by first | (with_reducible assumption) | assumption)
                   have q131 : x20_2 < (l1.length : Int) := of_decide_eq_true (by first | (with_reducible assumption) | assumption)
                   obtain ⟨ad131, e131, hx131_0⟩ := Kd.at_int HR1.out x20_2 p131 q131
                   have hw131_0 := hx131_0
                   cases e131
                   replace hx131_0 := (HB.out.cell (World.block_lt_of_cell? w _ hx131_0)).trans hx131_0
                   replace p131 := eq_true p131
                   replace q131 := eq_true q131
                   refine start_ (n := 9) (S := fun w' => w'.cell? (ad130.add (x15_1).toNat) = some (.int .i64 (rd l0 x15_1)) ∧ w'.cell? (ad131.add (x20_2).toNat) = some (.int .i64 (rd l1 x20_2))) (ds := []) #[N,N,N,N,N,N,N,N,N] (by kernel_rfl) rfl rfl ⟨((HB.out.cell (World.block_lt_of_cell? w _ hw130_0)).trans hw130_0), ((HB.out.cell (World.block_lt_of_cell? w _ hw131_0)).trans hw131_0)⟩ (fun hHeld => ?_); refine with_tabW grid_Ahead.tab8 grid_Ahead.bits8 (fun HT_ HW_ => ?_)
                   generalize wr.drew = w37 at HO_5 HB hx130_0 hx131_0 hHeld ⊢
                   refine pure_ (i := 0) (N := some 23) (v := ?_) (a' := ?_) #[Y,N,N,N,N,N,N,N,N] rfl rfl (any_of HT_.out (by kernel_rfl)) (fun _ _ _ h => h) (Or.inl ⟨by rfl, ?_⟩) ?_ ?_; rotate_left
                   ·intro w'; go_simp; with_reducible rfl
                   rotate_left
                   ·simp only [Act.put, sA,sB,sC, i64_w, i32_w]; rfl
                   refine pure_ (i := 1) (N := some 24) (v := ?_) (a' := ?_) #[Y,Y,N,N,N,N,N,N,N] rfl rfl (any_of HT_.out (by kernel_rfl)) (fun _ _ _ h => h) (Or.inl ⟨by rfl, ?_⟩) ?_ ?_; rotate_left
                   ·intro w'; go_simp; with_reducible rfl
                   rotate_left
                   ·simp only [Act.put, sA,sB,sC, i64_w, i32_w]; rfl
                   refine pure_ (i := 2) (N := some 25) (v := ?_) (a' := ?_) #[Y,Y,Y,N,N,N,N,N,N] rfl rfl (any_of HT_.out (by kernel_rfl)) (fun _ _ _ h => h) (Or.inl ⟨by rfl, ?_⟩) ?_ ?_; rotate_left
                   ·intro w'; go_simp; with_reducible rfl
                   rotate_left
                   ·simp only [Act.put, sA,sB,sC, i64_w, i32_w]; rfl
                   refine pure_ (i := 4) (N := some 27) (v := ?_) (a' := ?_) #[Y,Y,Y,N,Y,N,N,N,N] rfl rfl (any_of HT_.out (by kernel_rfl)) (fun _ _ _ h => h) (Or.inl ⟨by rfl, ?_⟩) ?_ ?_; rotate_left
                   ·intro w'; go_simp; with_reducible rfl
                   rotate_left
                   ·simp only [Act.put, sA,sB,sC, i64_w, i32_w]; rfl
                   refine pure_ (i := 5) (N := some 28) (v := ?_) (a' := ?_) #[Y,Y,Y,N,Y,Y,N,N,N] rfl rfl (any_of HT_.out (by kernel_rfl)) (fun _ _ _ h => h) (Or.inl ⟨by rfl, ?_⟩) ?_ ?_; rotate_left
                   ·intro w'; go_simp; with_reducible rfl
                   rotate_left
                   ·simp only [Act.put, sA,sB,sC, i64_w, i32_w]; rfl
                   refine pure_ (i := 6) (N := some 29) (v := ?_) (a' := ?_) #[Y,Y,Y,N,Y,Y,Y,N,N] rfl rfl (any_of HT_.out (by kernel_rfl)) (fun _ _ _ h => h) (Or.inl ⟨by rfl, ?_⟩) ?_ ?_; rotate_left
                   ·intro w'; go_simp; with_reducible rfl
                   rotate_left
                   ·simp only [Act.put, sA,sB,sC, i64_w, i32_w]; rfl
                   refine take_ (i := 3) (N := some 26) (v := ?_) (a' := ?_) #[Y,Y,Y,Y,Y,Y,Y,N,N] rfl rfl (take_ofW HT_.out HW_.out (by kernel_rfl)) (fun _ _ _ h => h) (Or.inl ⟨by rfl, ?_⟩) hHeld ?_ ?_; rotate_left
                   ·rintro w' ⟨s0, s1⟩; go_simp; with_reducible rfl
                   rotate_left
                   ·simp only [Act.put, sA,sB,sC, i64_w, i32_w]; rfl
                   refine take_ (i := 7) (N := some 30) (v := ?_) (a' := ?_) #[Y,Y,Y,Y,Y,Y,Y,Y,N] rfl rfl (take_ofW HT_.out HW_.out (by kernel_rfl)) (fun _ _ _ h => h) (Or.inl ⟨by rfl, ?_⟩) hHeld ?_ ?_; rotate_left
                   ·rintro w' ⟨s0, s1⟩; go_simp; with_reducible rfl
                   rotate_left
                   ·simp only [Act.put, sA,sB,sC, i64_w, i32_w]; rfl
                   refine pure_ (i := 8) (N := some 31) (v := ?_) (a' := ?_) #[Y,Y,Y,Y,Y,Y,Y,Y,Y] rfl rfl (any_of HT_.out (by kernel_rfl)) (fun _ _ _ h => h) (Or.inl ⟨by rfl, ?_⟩) ?_ ?_; rotate_left
                   ·intro w'; go_simp; with_reducible rfl
                   rotate_left
                   ·simp only [Act.put, sA,sB,sC, i64_w, i32_w]; rfl
                   refine done_ (done_of HT_.out (by kernel_rfl)) ?_
                   try go_wp2
                   have n0_ := Aside0.mk (Kd.S_drew HO_5.out)
                   have n1_ := Aside0.mk (below_drew1 HB.out)
                   clear HO_5
                   clear HB
                   have HO_5 := n0_
                   have HB := n1_
                   clear n0_ n1_
                   obtain ⟨Ao39, co39, eo39⟩ := Kd.S_slice HO_5.out
                   (first | subst eo39 | (injection eo39 with f1_ f2_ f3_; have f4_ := f1_.symm; have f5_ := f3_.symm; clear f1_ f2_ f3_; subst f4_; subst f5_))
                   have p138 : 0 ≤ ((ji26) : Int) := of_decide_eq_true (by first | (with_reducible assumption) | assumption)
                   have q138 : (ji26) < (x5_2.length : Int) := of_decide_eq_true (by first | (with_reducible assumption) | assumption)
                   try (obtain ⟨Ap138, cp138, ep138⟩ := Kd.S_slice HO_5.out; subst ep138)
                   obtain ⟨ad138, A138_0, c138_0, e138, hx138_0, hl138_0, hi138_0⟩ := at_L1 (Kd.S_reads' HO_5.out).2.2 (ji26) p138 q138
                   cases e138
                   obtain ⟨ce138, hce138, hMe138, hcc138⟩ := Kd.S_get HO_5.out [] (ji26) p138 (by first | exact q138 | exact of_decide_eq_true (by first | (with_reducible assumption) | assumption) | (have e_ := (Kd.S_reads' HO_5.out).1; omega))
                   obtain ⟨ve138_0, rfl, ge138_0⟩ := hMe138
                   have hv138_0 := hcc138 0 _ rfl
                   rw [Nat.add_zero, show ((Kd.slice 3 (Kd.int .i64))).sz = 1 from rfl, Nat.mul_one] at hv138_0
                   replace hv138_0 := Option.some.inj (hv138_0.symm.trans hx138_0)
                   rw [hv138_0] at ge138_0
                   have HL138_0 := Aside0.mk (show Kd.R (Kd.int .i64) 3 _ _ _ _ (rd_L1 x5_2 (ji26)) from ge138_0)
                   clear hv138_0 ge138_0
                   have HX138_0 := Aside0.mk hx138_0
                   clear hcc138 hce138
                   have HR138_0 := Aside0.mk hi138_0
                   have HC138_0 := Aside0.mk hl138_0
                   clear hi138_0 hl138_0
                   replace p138 := eq_true p138
                   replace q138 := eq_true q138
                   have p139 : 0 ≤ (x15_1 : Int) := of_decide_eq_true (by first | (with_reducible assumption) | assumption)
                   have q139 : x15_1 < (x5_2.length : Int) := of_decide_eq_true (by first | (with_reducible assumption) | assumption)
                   try (obtain ⟨Ap139, cp139, ep139⟩ := Kd.S_slice HO_5.out; subst ep139)
                   obtain ⟨ad139, A139_0, c139_0, e139, hx139_0, hl139_0, hi139_0⟩ := at_L1 (Kd.S_reads' HO_5.out).2.2 x15_1 p139 q139
                   obtain rfl : ad138 = ad139 := (by injection e139)
                   obtain ⟨ce139, hce139, hMe139, hcc139⟩ := Kd.S_get HO_5.out [] x15_1 p139 (by first | exact q139 | exact of_decide_eq_true (by first | (with_reducible assumption) | assumption) | (have e_ := (Kd.S_reads' HO_5.out).1; omega))
                   obtain ⟨ve139_0, rfl, ge139_0⟩ := hMe139
                   have hv139_0 := hcc139 0 _ rfl
                   rw [Nat.add_zero, show ((Kd.slice 3 (Kd.int .i64))).sz = 1 from rfl, Nat.mul_one] at hv139_0
                   replace hv139_0 := Option.some.inj (hv139_0.symm.trans hx139_0)
                   rw [hv139_0] at ge139_0
                   have HL139_0 := Aside0.mk (show Kd.R (Kd.int .i64) 3 _ _ _ _ (rd_L1 x5_2 x15_1) from ge139_0)
                   clear hv139_0 ge139_0
                   have HX139_0 := Aside0.mk hx139_0
                   clear hcc139 hce139
                   have HR139_0 := Aside0.mk hi139_0
                   have HC139_0 := Aside0.mk hl139_0
                   clear hi139_0 hl139_0
                   replace p139 := eq_true p139
                   replace q139 := eq_true q139
                   have p140 : 0 ≤ ((ji30) : Int) := of_decide_eq_true (by first | (with_reducible assumption) | assumption)
                   have q140 : (ji30) < ((rd_L1 x5_2 x15_1).length : Int) := of_decide_eq_true (by first | (with_reducible assumption) | assumption)
                   obtain ⟨ad140, e140, hx140_0⟩ := Kd.at_int (by repeat (first | (with_reducible exact HR139_0.out) | (with_reducible refine Kd.C_alloc ?_ _) | (with_reducible refine Kd.C_drewN ?_ _) | (with_reducible refine Kd.C_drew ?_) | exact HR139_0.out)) (ji30) p140 q140
                   cases e140
                   replace p140 := eq_true p140
                   replace q140 := eq_true q140
                   have p141 : 0 ≤ ((ji26) : Int) := of_decide_eq_true (by first | (with_reducible assumption) | assumption)
                   have q141 : (ji26) < (x5_2.length : Int) := of_decide_eq_true (by first | (with_reducible assumption) | assumption)
                   try (obtain ⟨Ap141, cp141, ep141⟩ := Kd.S_slice HO_5.out; subst ep141)
                   obtain ⟨ad141, A141_0, c141_0, e141, hx141_0, hl141_0, hi141_0⟩ := at_L1 (Kd.S_reads' HO_5.out).2.2 (ji26) p141 q141
                   obtain rfl : ad138 = ad141 := (by injection e141)
                   obtain ⟨ce141, hce141, hMe141, hcc141⟩ := Kd.S_get HO_5.out [] (ji26) p141 (by first | exact q141 | exact of_decide_eq_true (by first | (with_reducible assumption) | assumption) | (have e_ := (Kd.S_reads' HO_5.out).1; omega))
                   obtain ⟨ve141_0, rfl, ge141_0⟩ := hMe141
                   have hv141_0 := hcc141 0 _ rfl
                   rw [Nat.add_zero, show ((Kd.slice 3 (Kd.int .i64))).sz = 1 from rfl, Nat.mul_one] at hv141_0
                   replace hv141_0 := Option.some.inj (hv141_0.symm.trans hx141_0)
                   rw [hv141_0] at ge141_0
                   have HL141_0 := Aside0.mk (show Kd.R (Kd.int .i64) 3 _ _ _ _ (rd_L1 x5_2 (ji26)) from ge141_0)
                   clear hv141_0 ge141_0
                   have HX141_0 := Aside0.mk hx141_0
                   clear hcc141 hce141
                   have HR141_0 := Aside0.mk hi141_0
                   have HC141_0 := Aside0.mk hl141_0
                   clear hi141_0 hl141_0
                   replace p141 := eq_true p141
                   replace q141 := eq_true q141
                   have ea_ := Option.some.inj (hx138_0.symm.trans hx141_0)
                   injection ea_ with ea_ en_ ec_
                   subst ea_
                   subst ec_
                   clear en_
                   have p142 : 0 ≤ (x20_2 : Int) := of_decide_eq_true (by first | (with_reducible assumption) | assumption)
                   have q142 : x20_2 < ((rd_L1 x5_2 (ji26)).length : Int) := of_decide_eq_true (by first | (with_reducible assumption) | assumption)
                   obtain ⟨ad142, e142, hx142_0⟩ := Kd.at_int (by repeat (first | (with_reducible exact HR141_0.out) | (with_reducible refine Kd.C_alloc ?_ _) | (with_reducible refine Kd.C_drewN ?_ _) | (with_reducible refine Kd.C_drew ?_) | exact HR141_0.out)) x20_2 p142 q142
                   cases e142
                   replace p142 := eq_true p142
                   replace q142 := eq_true q142
                   have p36 : 0 ≤ ((ji30) : Int) := of_decide_eq_true (by first | (with_reducible assumption) | assumption)
                   have q36 : ((ji30) : Int) < (((rd_L1 x5_2 (ji26)).length : Int) : Int) := of_decide_eq_true (by first | (with_reducible assumption) | assumption)
                   obtain ⟨go36, co36, eo36, gb36, gl36, cl36, HG36⟩ := Kd.R_form HL138_0.out (by omega)
                   (first | cases eo36 | (injection eo36 with ea_ en_ ec_; (first | subst ea_ | (injection ea_ with ea_; subst ea_)); subst ec_; clear en_))
                   have GB36 := Aside0.mk gb36
                   have GG36 := Aside0.mk HG36
                   clear gb36 gl36 HG36
                   (first | simp only [add_plain] at hx142_0 | skip)
                   obtain ⟨hx36_0, hf36_0⟩ := Kd.R_celln 0 HL138_0.out ((ji30) : Int) p36 q36
                   replace p36 := eq_true p36
                   replace q36 := eq_true q36
                   have hq40 : ((ji26) : Int) < (x5_2.length : Int) := (by have h_ : ((ji26) : Int) < ((x5_2.length : Int) : Int) := of_decide_eq_true (by first | (with_reducible assumption) | assumption); first | exact h_ | (have e_ := (Kd.S_reads' HO_5.out).1; omega) | simpa only [List.length_set, List.length_set] using h_)
                   obtain ⟨oki40, ce40, hcl40, hM40, hcc40, hok40, hbk40⟩ := Kd.S_borrow HO_5.out [] ((ji26) : Int) (of_decide_eq_true (by first | (with_reducible assumption) | assumption)) hq40
                   obtain ⟨ve40_0, rfl, ge40_0⟩ := hM40
                   have hv40 := hcc40 0 _ rfl
                   rw [Nat.add_zero, show ((Kd.slice 3 (Kd.int .i64))).sz = 1 from rfl, Nat.mul_one] at hv40
                   replace hv40 := Option.some.inj (hv40.symm.trans HX138_0.out)
                   subst hv40
                   clear hcc40 hcl40
                   replace ge40_0 := (show Kd.R (Kd.int .i64) 3 _ _ _ _ (rd_L1 x5_2 (ji26)) from ge40_0)
                   have HP40 := Kd.R_putg ge40_0 ((ji30) : Int) ji34
                   rw [← Ny143.out] at HP40
                   have HS40 := hbk40 HP40.2 (fun k_ e_ => by injection e_ with e_; subst e_; exact ge40_0.1 _ rfl) (x' := y143) (Kd.M_row HP40.1)
                   rw [← Ny145.out] at HS40
                   have HQ40 := Aside0.mk HS40
                   clear HP40 HS40 hbk40 hok40
                   refine start_ (n := 26) (S := fun w' => w'.cell? (ad138.add ((ji26)).toNat) = some (.slice (some ⟨go36, 0, none⟩) (rd_L1 x5_2 (ji26)).length c138_0) ∧ w'.cell? (ad138.add (x15_1).toNat) = some (.slice (some ad140) (rd_L1 x5_2 x15_1).length c139_0) ∧ w'.cell? (ad140.add ((ji30)).toNat) = some (.int .i64 (rd (rd_L1 x5_2 x15_1) (ji30))) ∧ w'.cell? (ad138.add ((ji26)).toNat) = some (.slice (some ⟨go36, 0, none⟩) (rd_L1 x5_2 (ji26)).length c138_0) ∧ w'.cell? ⟨go36, (x20_2).toNat, none⟩ = some (.int .i64 (rd (rd_L1 x5_2 (ji26)) x20_2))) (ds := [25]) #[N,N,N,N,N,N,N,N,N,N,N,N,N,N,N,N,N,N,N,N,N,N,N,N,N,N] (by kernel_rfl) rfl rfl ⟨hx138_0, hx139_0, hx140_0, hx141_0, hx142_0⟩ (fun hHeld => ?_); refine with_tabW grid_Ahead.tab10 grid_Ahead.bits10 (fun HT_ HW_ => ?_)
                   generalize w37.drew = w38 at HO_5 HB GG36 HL138_0 HL139_0 HL141_0 HQ40 HR138_0 HR139_0 HR141_0 HX138_0 HX139_0 HX141_0 hf36_0 hx138_0 hx139_0 hx140_0 hx141_0 hx142_0 hx36_0 hHeld ⊢
                   refine pure_ (i := 0) (N := some 48) (v := ?_) (a' := ?_) #[Y,N,N,N,N,N,N,N,N,N,N,N,N,N,N,N,N,N,N,N,N,N,N,N,N,N] rfl rfl (any_of HT_.out (by kernel_rfl)) (fun _ _ _ h => h) (Or.inl ⟨by rfl, ?_⟩) ?_ ?_; rotate_left
                   ·intro w'; go_simp; with_reducible rfl
                   rotate_left
                   ·simp only [Act.put, sA,sB,sC, i64_w, i32_w]; rfl
                   refine pure_ (i := 1) (N := some 49) (v := ?_) (a' := ?_) #[Y,Y,N,N,N,N,N,N,N,N,N,N,N,N,N,N,N,N,N,N,N,N,N,N,N,N] rfl rfl (any_of HT_.out (by kernel_rfl)) (fun _ _ _ h => h) (Or.inl ⟨by rfl, ?_⟩) ?_ ?_; rotate_left
                   ·intro w'; go_simp; with_reducible rfl
                   rotate_left
                   ·simp only [Act.put, sA,sB,sC, i64_w, i32_w]; rfl
                   refine pure_ (i := 2) (N := some 50) (v := ?_) (a' := ?_) #[Y,Y,Y,N,N,N,N,N,N,N,N,N,N,N,N,N,N,N,N,N,N,N,N,N,N,N] rfl rfl (any_of HT_.out (by kernel_rfl)) (fun _ _ _ h => h) (Or.inl ⟨by rfl, ?_⟩) ?_ ?_; rotate_left
                   ·intro w'; go_simp; with_reducible rfl
                   rotate_left
                   ·simp only [Act.put, sA,sB,sC, i64_w, i32_w]; rfl
                   refine pure_ (i := 3) (N := some 51) (v := ?_) (a' := ?_) #[Y,Y,Y,Y,N,N,N,N,N,N,N,N,N,N,N,N,N,N,N,N,N,N,N,N,N,N] rfl rfl (any_of HT_.out (by kernel_rfl)) (fun _ _ _ h => h) (Or.inl ⟨by rfl, ?_⟩) ?_ ?_; rotate_left
                   ·intro w'; go_simp; with_reducible rfl
                   rotate_left
                   ·simp only [Act.put, sA,sB,sC, i64_w, i32_w]; rfl
                   refine pure_ (i := 5) (N := some 53) (v := ?_) (a' := ?_) #[Y,Y,Y,Y,N,Y,N,N,N,N,N,N,N,N,N,N,N,N,N,N,N,N,N,N,N,N] rfl rfl (any_of HT_.out (by kernel_rfl)) (fun _ _ _ h => h) (Or.inl ⟨by rfl, ?_⟩) ?_ ?_; rotate_left
                   ·intro w'; go_simp; with_reducible rfl
                   rotate_left
                   ·simp only [Act.put, sA,sB,sC, i64_w, i32_w]; rfl
                   refine pure_ (i := 6) (N := some 54) (v := ?_) (a' := ?_) #[Y,Y,Y,Y,N,Y,Y,N,N,N,N,N,N,N,N,N,N,N,N,N,N,N,N,N,N,N] rfl rfl (any_of HT_.out (by kernel_rfl)) (fun _ _ _ h => h) (Or.inl ⟨by rfl, ?_⟩) ?_ ?_; rotate_left
                   ·intro w'; go_simp; with_reducible rfl
                   rotate_left
                   ·simp only [Act.put, sA,sB,sC, i64_w, i32_w]; rfl
                   refine pure_ (i := 7) (N := some 55) (v := ?_) (a' := ?_) #[Y,Y,Y,Y,N,Y,Y,Y,N,N,N,N,N,N,N,N,N,N,N,N,N,N,N,N,N,N] rfl rfl (any_of HT_.out (by kernel_rfl)) (fun _ _ _ h => h) (Or.inl ⟨by rfl, ?_⟩) ?_ ?_; rotate_left
                   ·intro w'; go_simp; with_reducible rfl
                   rotate_left
                   ·simp only [Act.put, sA,sB,sC, i64_w, i32_w]; rfl
                   refine pure_ (i := 8) (N := some 56) (v := ?_) (a' := ?_) #[Y,Y,Y,Y,N,Y,Y,Y,Y,N,N,N,N,N,N,N,N,N,N,N,N,N,N,N,N,N] rfl rfl (any_of HT_.out (by kernel_rfl)) (fun _ _ _ h => h) (Or.inl ⟨by rfl, ?_⟩) ?_ ?_; rotate_left
                   ·intro w'; go_simp; with_reducible rfl
                   rotate_left
                   ·simp only [Act.put, sA,sB,sC, i64_w, i32_w]; rfl
                   refine pure_ (i := 9) (N := some 57) (v := ?_) (a' := ?_) #[Y,Y,Y,Y,N,Y,Y,Y,Y,Y,N,N,N,N,N,N,N,N,N,N,N,N,N,N,N,N] rfl rfl (any_of HT_.out (by kernel_rfl)) (fun _ _ _ h => h) (Or.inl ⟨by rfl, ?_⟩) ?_ ?_; rotate_left
                   ·intro w'; go_simp; with_reducible rfl
                   rotate_left
                   ·simp only [Act.put, sA,sB,sC, i64_w, i32_w]; rfl
                   refine pure_ (i := 11) (N := some 59) (v := ?_) (a' := ?_) #[Y,Y,Y,Y,N,Y,Y,Y,Y,Y,N,Y,N,N,N,N,N,N,N,N,N,N,N,N,N,N] rfl rfl (any_of HT_.out (by kernel_rfl)) (fun _ _ _ h => h) (Or.inl ⟨by rfl, ?_⟩) ?_ ?_; rotate_left
                   ·intro w'; go_simp; with_reducible rfl
                   rotate_left
                   ·simp only [Act.put, sA,sB,sC, i64_w, i32_w]; rfl
                   refine pure_ (i := 12) (N := some 60) (v := ?_) (a' := ?_) #[Y,Y,Y,Y,N,Y,Y,Y,Y,Y,N,Y,Y,N,N,N,N,N,N,N,N,N,N,N,N,N] rfl rfl (any_of HT_.out (by kernel_rfl)) (fun _ _ _ h => h) (Or.inl ⟨by rfl, ?_⟩) ?_ ?_; rotate_left
                   ·intro w'; go_simp; with_reducible rfl
                   rotate_left
                   ·simp only [Act.put, sA,sB,sC, i64_w, i32_w]; rfl
                   refine pure_ (i := 15) (N := some 63) (v := ?_) (a' := ?_) #[Y,Y,Y,Y,N,Y,Y,Y,Y,Y,N,Y,Y,N,N,Y,N,N,N,N,N,N,N,N,N,N] rfl rfl (any_of HT_.out (by kernel_rfl)) (fun _ _ _ h => h) (Or.inl ⟨by rfl, ?_⟩) ?_ ?_; rotate_left
                   ·intro w'; go_simp; with_reducible rfl
                   rotate_left
                   ·simp only [Act.put, sA,sB,sC, i64_w, i32_w]; rfl
                   refine pure_ (i := 16) (N := some 64) (v := ?_) (a' := ?_) #[Y,Y,Y,Y,N,Y,Y,Y,Y,Y,N,Y,Y,N,N,Y,Y,N,N,N,N,N,N,N,N,N] rfl rfl (any_of HT_.out (by kernel_rfl)) (fun _ _ _ h => h) (Or.inl ⟨by rfl, ?_⟩) ?_ ?_; rotate_left
                   ·intro w'; go_simp; with_reducible rfl
                   rotate_left
                   ·simp only [Act.put, sA,sB,sC, i64_w, i32_w]; rfl
                   refine pure_ (i := 17) (N := some 65) (v := ?_) (a' := ?_) #[Y,Y,Y,Y,N,Y,Y,Y,Y,Y,N,Y,Y,N,N,Y,Y,Y,N,N,N,N,N,N,N,N] rfl rfl (any_of HT_.out (by kernel_rfl)) (fun _ _ _ h => h) (Or.inl ⟨by rfl, ?_⟩) ?_ ?_; rotate_left
                   ·intro w'; go_simp; with_reducible rfl
                   rotate_left
                   ·simp only [Act.put, sA,sB,sC, i64_w, i32_w]; rfl
                   refine pure_ (i := 18) (N := some 66) (v := ?_) (a' := ?_) #[Y,Y,Y,Y,N,Y,Y,Y,Y,Y,N,Y,Y,N,N,Y,Y,Y,Y,N,N,N,N,N,N,N] rfl rfl (any_of HT_.out (by kernel_rfl)) (fun _ _ _ h => h) (Or.inl ⟨by rfl, ?_⟩) ?_ ?_; rotate_left
                   ·intro w'; go_simp; with_reducible rfl
                   rotate_left
                   ·simp only [Act.put, sA,sB,sC, i64_w, i32_w]; rfl
                   refine pure_ (i := 20) (N := some 68) (v := ?_) (a' := ?_) #[Y,Y,Y,Y,N,Y,Y,Y,Y,Y,N,Y,Y,N,N,Y,Y,Y,Y,N,Y,N,N,N,N,N] rfl rfl (any_of HT_.out (by kernel_rfl)) (fun _ _ _ h => h) (Or.inl ⟨by rfl, ?_⟩) ?_ ?_; rotate_left
                   ·intro w'; go_simp; with_reducible rfl
                   rotate_left
                   ·simp only [Act.put, sA,sB,sC, i64_w, i32_w]; rfl
                   refine take_ (i := 4) (N := some 52) (v := ?_) (a' := ?_) #[Y,Y,Y,Y,Y,Y,Y,Y,Y,Y,N,Y,Y,N,N,Y,Y,Y,Y,N,Y,N,N,N,N,N] rfl rfl (take_ofW HT_.out HW_.out (by kernel_rfl)) (fun _ _ _ h => h) (Or.inl ⟨by rfl, ?_⟩) hHeld ?_ ?_; rotate_left
                   ·rintro w' ⟨s0, s1, s2, s3, s4⟩; go_simp; with_reducible rfl
                   rotate_left
                   ·simp only [Act.put, sA,sB,sC, i64_w, i32_w]; rfl
                   refine take_ (i := 10) (N := some 58) (v := ?_) (a' := ?_) #[Y,Y,Y,Y,Y,Y,Y,Y,Y,Y,Y,Y,Y,N,N,Y,Y,Y,Y,N,Y,N,N,N,N,N] rfl rfl (take_ofW HT_.out HW_.out (by kernel_rfl)) (fun _ _ _ h => h) (Or.inl ⟨by rfl, ?_⟩) hHeld ?_ ?_; rotate_left
                   ·rintro w' ⟨s0, s1, s2, s3, s4⟩; go_simp; with_reducible rfl
                   rotate_left
                   ·simp only [Act.put, sA,sB,sC, i64_w, i32_w]; rfl
                   refine pure_ (i := 13) (N := some 61) (v := ?_) (a' := ?_) #[Y,Y,Y,Y,Y,Y,Y,Y,Y,Y,Y,Y,Y,Y,N,Y,Y,Y,Y,N,Y,N,N,N,N,N] rfl rfl (any_of HT_.out (by kernel_rfl)) (fun _ _ _ h => h) (Or.inl ⟨by rfl, ?_⟩) ?_ ?_; rotate_left
                   ·intro w'; go_simp; with_reducible rfl
                   rotate_left
                   ·simp only [Act.put, sA,sB,sC, i64_w, i32_w]; rfl
                   refine take_ (i := 14) (N := some 62) (v := ?_) (a' := ?_) #[Y,Y,Y,Y,Y,Y,Y,Y,Y,Y,Y,Y,Y,Y,Y,Y,Y,Y,Y,N,Y,N,N,N,N,N] rfl rfl (take_ofW HT_.out HW_.out (by kernel_rfl)) (fun _ _ _ h => h) (Or.inl ⟨by rfl, ?_⟩) hHeld ?_ ?_; rotate_left
                   ·rintro w' ⟨s0, s1, s2, s3, s4⟩; go_simp; with_reducible rfl
                   rotate_left
                   ·simp only [Act.put, sA,sB,sC, i64_w, i32_w]; rfl
                   refine take_ (i := 19) (N := some 67) (v := ?_) (a' := ?_) #[Y,Y,Y,Y,Y,Y,Y,Y,Y,Y,Y,Y,Y,Y,Y,Y,Y,Y,Y,Y,Y,N,N,N,N,N] rfl rfl (take_ofW HT_.out HW_.out (by kernel_rfl)) (fun _ _ _ h => h) (Or.inl ⟨by rfl, ?_⟩) hHeld ?_ ?_; rotate_left
                   ·rintro w' ⟨s0, s1, s2, s3, s4⟩; go_simp; with_reducible rfl
                   rotate_left
                   ·simp only [Act.put, sA,sB,sC, i64_w, i32_w]; rfl
                   refine pure_ (i := 21) (N := some 69) (v := ?_) (a' := ?_) #[Y,Y,Y,Y,Y,Y,Y,Y,Y,Y,Y,Y,Y,Y,Y,Y,Y,Y,Y,Y,Y,Y,N,N,N,N] rfl rfl (any_of HT_.out (by kernel_rfl)) (fun _ _ _ h => h) (Or.inl ⟨by rfl, ?_⟩) ?_ ?_; rotate_left
                   ·intro w'; go_simp; with_reducible rfl
                   rotate_left
                   ·simp only [Act.put, sA,sB,sC, i64_w, i32_w]; rfl
                   refine take_ (i := 22) (N := some 70) (v := ?_) (a' := ?_) #[Y,Y,Y,Y,Y,Y,Y,Y,Y,Y,Y,Y,Y,Y,Y,Y,Y,Y,Y,Y,Y,Y,Y,N,N,N] rfl rfl (take_ofW HT_.out HW_.out (by kernel_rfl)) (fun _ _ _ h => h) (Or.inl ⟨by rfl, ?_⟩) hHeld ?_ ?_; rotate_left
                   ·rintro w' ⟨s0, s1, s2, s3, s4⟩; go_simp; with_reducible rfl
                   rotate_left
                   ·simp only [Act.put, sA,sB,sC, i64_w, i32_w]; rfl
                   refine pure_ (i := 23) (N := some 71) (v := ?_) (a' := ?_) #[Y,Y,Y,Y,Y,Y,Y,Y,Y,Y,Y,Y,Y,Y,Y,Y,Y,Y,Y,Y,Y,Y,Y,Y,N,N] rfl rfl (any_of HT_.out (by kernel_rfl)) (fun _ _ _ h => h) (Or.inl ⟨by rfl, ?_⟩) ?_ ?_; rotate_left
                   ·intro w'; go_simp; with_reducible rfl
                   rotate_left
                   ·simp only [Act.put, sA,sB,sC, i64_w, i32_w]; rfl
                   refine pure_ (i := 24) (N := some 72) (v := ?_) (a' := ?_) #[Y,Y,Y,Y,Y,Y,Y,Y,Y,Y,Y,Y,Y,Y,Y,Y,Y,Y,Y,Y,Y,Y,Y,Y,Y,N] rfl rfl (any_of HT_.out (by kernel_rfl)) (fun _ _ _ h => h) (Or.inl ⟨by rfl, ?_⟩) ?_ ?_; rotate_left
                   ·intro w'; go_simp; with_reducible rfl
                   rotate_left
                   ·simp only [Act.put, sA,sB,sC, i64_w, i32_w]; rfl
                   refine last_ (i := 25) (N := none) #[Y,Y,Y,Y,Y,Y,Y,Y,Y,Y,Y,Y,Y,Y,Y,Y,Y,Y,Y,Y,Y,Y,Y,Y,Y,Y] rfl rfl (one_of HT_.out (by kernel_rfl)) (by decide) (fun K hK => ?_)
                   refine skip_ (w1 := ?_) (by rfl) rfl ?_ ?_
                   rotate_left
                   ·go_simp; rfl
                   refine hK.out _ _ ?_
                   clear hK K
                   refine done_ (done_of HT_.out (by kernel_rfl)) ?_
                   try go_wp2
                   go_roundg k2
                   case measure => have := HK1.out; have := HK2.out; omega
                   case rel => exact ⟨(y145), (ji30), (by first | rfl | (simp; done) | (simp only [← hji30] <;> (first | rfl | simp)) | (simp [*]; done)), H', ⟨by have := HK1.out; have := HK2.out; omega⟩, ⟨by (with_reducible repeat (first | apply Kd.S_alloc | apply Kd.S_drewN | apply Kd.S_drew)); exact HQ40.out⟩, ⟨by repeat (first | (with_reducible first | exact HB.out | apply below_alloc | apply pw_below_drewN | apply below_drew1 | refine below_set ?_ GB36.out) | exact HB.out)⟩⟩
                  ·rw [if_neg c35] at H
                   exact absurd H (by simp)
                 ·rw [if_neg c33] at H
                  exact absurd H (by simp)
                ·rw [if_neg c32] at H
                 exact absurd H (by simp)
               ·rw [if_neg c31] at H
                exact absurd H (by simp)
              ·rw [if_neg c29] at H
               exact absurd H (by simp)
             ·rw [if_neg c28] at H
              exact absurd H (by simp)
            ·rw [if_neg c27] at H
             exact absurd H (by simp)
          ·rw [if_neg c10] at H
           exact absurd H (by simp)
         ·rw [if_neg c9] at H
          exact absurd H (by simp)
        ·rw [if_neg c8] at H
         exact absurd H (by simp)
       ·rw [if_neg c7] at H
        exact absurd H (by simp)
      ·rw [if_neg c6] at H
       have c6b0 : decide (x20_2 < (l1.length : Int)) = false := decide_eq_false c6
       clear c6
       have H' := Aside0.mk H
       clear H
       go_wp2
       go_roundg k2
       case measure => have := HK1.out; have := HK2.out; omega
       case rel => exact ⟨(x5_2), (wrap64 (x15_1 + 1)), (by first | rfl | (simp; done) | (simp [*]; done)), H', ⟨by have := HK1.out; have := HK2.out; omega⟩, ⟨by (with_reducible repeat (first | apply Kd.S_alloc | apply Kd.S_drewN | apply Kd.S_drew)); exact HO_5.out⟩, ⟨by repeat (first | (with_reducible first | exact HB.out | apply below_alloc | apply pw_below_drewN | apply below_drew1) | exact HB.out)⟩⟩
   ·rw [if_neg c5] at H
    have c5b0 : decide (x15_1 < (l0.length : Int)) = false := decide_eq_false c5
    clear c5
    obtain rfl := Option.some.inj H
    go_wp2
    go_ret
    exact ⟨_, by first | rfl | (simp [errW_none, errW_some] <;> rfl) | (simp [*, errW_none, errW_some] <;> rfl), by (with_reducible repeat (first | apply Kd.S_alloc | apply Kd.S_drewN | apply Kd.S_drew)); exact HO_5.out, by repeat (first | (with_reducible first | exact HB.out | apply below_alloc | apply pw_below_drewN | apply below_drew1) | exact HB.out)⟩

end Go.Proofs.Ytknfcipjbhhldaa.PGridAhead
