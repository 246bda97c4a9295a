/- What the given program's functions come to, each a Lean function and the walk that shows it: no condition beside those that each theorem names. -/
import Derived.Test.YtdegajidkboknaaPCanonAnyx0
import Derived.Test.YtdegajidkboknaaPCanonAnyx4
namespace Go.Proofs.Ytdegajidkboknaa.PCanonAny
open Go.RowKit Go.Proofs.YtdegajidkboknaaW.PrintWords Go.Proofs.YtdegajidkboknaaW.PrintLast Go.Proofs.YtdegajidkboknaaW.PrintMore
attribute [local go_sem] max2_int min2_int max_two min_two max_three min_three max_four min_four   -- for this text's walks alone
set_option linter.unusedVariables false
set_option linter.unusedSimpArgs false

/-! ### grid_Behind: function 35 -/
mutual
def grid_Behind.l0 : Nat → List Int → List Int → List (List Int) → Int → Option ((List (List Int)))
 | 0, _, _, _, _ => none
 | k + 1, x0, x1, x5, x6 => if x6 ≥ 0 then (grid_Behind.l1 k x0 x1 x5 x6 (wrap64 ((x1.length : Int) - 1))) else (some x5)
def grid_Behind.l1 : Nat → List Int → List Int → List (List Int) → Int → Int → Option ((List (List Int)))
 | 0, _, _, _, _, _ => none
 | k + 1, x0, x1, x5, x6, x7 => if x7 ≥ 0 then (if 0 ≤ x6 then (if x6 < (x0.length : Int) then (if 0 ≤ x7 then (if x7 < (x1.length : Int) then (if (rd x0 x6) = (rd x1 x7) then (if x6 < (x5.length : Int) then (if 0 ≤ (wrap64 (x6 + 1)) then (if (wrap64 (x6 + 1)) < (x5.length : Int) then (if 0 ≤ (wrap64 (x7 + 1)) then (if (wrap64 (x7 + 1)) < ((rd_L2 x5 (wrap64 (x6 + 1))).length : Int) then (if x7 < ((rd_L2 x5 x6).length : Int) then (grid_Behind.l1 k x0 x1 (x5.set (x6 : Int).toNat ((rd_L2 x5 x6).set (x7 : Int).toNat (wrap64 ((rd (rd_L2 x5 (wrap64 (x6 + 1))) (wrap64 (x7 + 1))) + 1)))) x6 (wrap64 (x7 - 1))) else (none)) else (none)) else (none)) else (none)) else (none)) else (none)) else (if x6 < (x5.length : Int) then (if 0 ≤ (wrap64 (x6 + 1)) then (if (wrap64 (x6 + 1)) < (x5.length : Int) then (if x7 < ((rd_L2 x5 (wrap64 (x6 + 1))).length : Int) then (if 0 ≤ (wrap64 (x7 + 1)) then (if (wrap64 (x7 + 1)) < ((rd_L2 x5 x6).length : Int) then (if x7 < ((rd_L2 x5 x6).length : Int) then (grid_Behind.l1 k x0 x1 (x5.set (x6 : Int).toNat ((rd_L2 x5 x6).set (x7 : Int).toNat (mx (rd (rd_L2 x5 (wrap64 (x6 + 1))) x7) (rd (rd_L2 x5 x6) (wrap64 (x7 + 1)))))) x6 (wrap64 (x7 - 1))) else (none)) else (none)) else (none)) else (none)) else (none)) else (none)) else (none))) else (none)) else (none)) else (none)) else (none)) else (grid_Behind.l0 k x0 x1 x5 (wrap64 (x6 - 1)))
end
def grid_Behind.f (k : Nat) (l0 : List Int) (l1 : List Int) : Option ((List (List Int))) := (grid_table.f k (l0.length : Int) (l1.length : Int)).bind fun t126 => (grid_Behind.l0 k l0 l1 t126 (wrap64 ((l0.length : Int) - 1)))
theorem grid_Behind.mono_l : ∀ k, (∀ y0 y1 y2 y3, LeO (grid_Behind.l0 k y0 y1 y2 y3) (grid_Behind.l0 (k + 1) y0 y1 y2 y3)) ∧ (∀ y0 y1 y2 y3 y4, LeO (grid_Behind.l1 k y0 y1 y2 y3 y4) (grid_Behind.l1 (k + 1) y0 y1 y2 y3 y4))
 | 0 => ⟨fun _ _ _ _ r h => by simp [grid_Behind.l0] at h, fun _ _ _ _ _ r h => by simp [grid_Behind.l1] at h⟩
 | k + 1 => by
  obtain ⟨ih0, ih1⟩ := grid_Behind.mono_l k
  refine ⟨?_, ?_⟩
  ·intro y0 y1 y2 y3
   unfold grid_Behind.l0
   repeat' first
   | (with_reducible exact ih0 _ _ _ _)
   | (with_reducible exact ih1 _ _ _ _ _)
   | (with_reducible exact grid_table.mono _ _ _)
   | (with_reducible exact LeO.refl _)
   | (with_reducible exact LeO.none _)
   | (with_reducible refine LeO.ite ?_ ?_)
   | (with_reducible refine LeO.bind ?_ (fun _ => ?_))
   | exact ih0 _ _ _ _
   | exact ih1 _ _ _ _ _
   | exact grid_table.mono _ _ _
   | exact LeO.none _
   | refine LeO.ite ?_ ?_
   | refine LeO.bind ?_ (fun _ => ?_)
  ·intro y0 y1 y2 y3 y4
   unfold grid_Behind.l1
   repeat' first
   | (with_reducible exact ih0 _ _ _ _)
   | (with_reducible exact ih1 _ _ _ _ _)
   | (with_reducible exact grid_table.mono _ _ _)
   | (with_reducible exact LeO.refl _)
   | (with_reducible exact LeO.none _)
   | (with_reducible refine LeO.ite ?_ ?_)
   | (with_reducible refine LeO.bind ?_ (fun _ => ?_))
   | exact ih0 _ _ _ _
   | exact ih1 _ _ _ _ _
   | exact grid_table.mono _ _ _
   | exact LeO.none _
   | refine LeO.ite ?_ ?_
   | refine LeO.bind ?_ (fun _ => ?_)
theorem grid_Behind.mono : ∀ a0 a1 k, LeO (grid_Behind.f k a0 a1) (grid_Behind.f (k + 1) a0 a1) := by
 intro a0 a1 k
 obtain ⟨ih0, ih1⟩ := grid_Behind.mono_l k
 unfold grid_Behind.f
 repeat' first
   | (with_reducible exact ih0 _ _ _ _)
   | (with_reducible exact ih1 _ _ _ _ _)
   | (with_reducible exact grid_table.mono _ _ _)
   | (with_reducible exact LeO.refl _)
   | (with_reducible exact LeO.none _)
   | (with_reducible refine LeO.ite ?_ ?_)
   | (with_reducible refine LeO.bind ?_ (fun _ => ?_))
   | exact ih0 _ _ _ _
   | exact ih1 _ _ _ _ _
   | exact grid_table.mono _ _ _
   | exact LeO.none _
   | refine LeO.ite ?_ ?_
   | refine LeO.bind ?_ (fun _ => ?_)
def grid_Behind.T8 : Bool × List (List Nat × List Nat) := (true, [([], []), ([], []), ([0, 1], [0, 1]), ([2], [2]), ([], []), ([], []), ([4, 5], [4, 5]), ([6], [6]), ([3, 7], [3, 7])])
def grid_Behind.B8 : List Nat := [0, 0, 3, 7, 0, 0, 48, 112, 255]
theorem grid_Behind.tab8 : rtab .any (opsOf Try.f35 8) = grid_Behind.T8 := by kernel_rfl
theorem grid_Behind.bits8 : waitsOk grid_Behind.T8.2 grid_Behind.B8 = true := by kernel_rfl
def grid_Behind.T9 : Bool × List (List Nat × List Nat) := (true, [([], []), ([], []), ([0, 1], [0, 1]), ([2], [2]), ([], []), ([], []), ([], []), ([6], [6]), ([5, 7], [5, 7]), ([8], [8]), ([], []), ([10], [10]), ([9, 11], [9, 11]), ([12], [12]), ([13], [13]), ([3, 4, 0, 1, 2, 3, 4, 5, 6, 7, 8, 9, 10, 11, 12, 13, 14], [3, 4]), ([15, 14, 0, 1, 2, 3, 4, 5, 6, 7, 8, 9, 10, 11, 12, 13, 14], [14, 15])])
def grid_Behind.B9 : List Nat := [0, 0, 3, 7, 0, 0, 0, 64, 224, 480, 0, 1024, 4064, 8160, 16352, 32767, 65535]
theorem grid_Behind.tab9 : rtab .any (opsOf Try.f35 9) = grid_Behind.T9 := by kernel_rfl
theorem grid_Behind.bits9 : waitsOk grid_Behind.T9.2 grid_Behind.B9 = true := by kernel_rfl
def grid_Behind.T10 : Bool × List (List Nat × List Nat) := (true, [([], []), ([], []), ([0, 1], [0, 1]), ([2], [2]), ([], []), ([], []), ([], []), ([6], [6]), ([5, 7], [5, 7]), ([8], [8]), ([], []), ([9, 10], [9, 10]), ([11], [11]), ([], []), ([], []), ([13, 14], [13, 14]), ([15], [15]), ([], []), ([17], [17]), ([16, 18], [16, 18]), ([19], [19]), ([12, 20], [12, 20]), ([3, 4, 0, 1, 2, 3, 4, 5, 6, 7, 8, 9, 10, 11, 12, 13, 14, 15, 16, 17, 18, 19, 20, 21], [3, 4]), ([22, 21, 0, 1, 2, 3, 4, 5, 6, 7, 8, 9, 10, 11, 12, 13, 14, 15, 16, 17, 18, 19, 20, 21], [21, 22])])
def grid_Behind.B10 : List Nat := [0, 0, 3, 7, 0, 0, 0, 64, 224, 480, 0, 2016, 4064, 0, 0, 24576, 57344, 0, 131072, 516096, 1040384, 2097120, 4194303, 8388607]
theorem grid_Behind.tab10 : rtab .any (opsOf Try.f35 10) = grid_Behind.T10 := by kernel_rfl
theorem grid_Behind.bits10 : waitsOk grid_Behind.T10.2 grid_Behind.B10 = true := by kernel_rfl
set_option maxHeartbeats 8000000 in
set_option maxRecDepth 100000 in
theorem grid_Behind.calls (k : Nat) (A0 : Option Addr) (c0 : Nat) (l0 : List Int) (A1 : Option Addr) (c1 : Nat) (l1 : List Int) (r : List (List Int)) (w : World) (hr0 : Kd.C (Kd.int .i64) w A0 l0.length l0) (hc0 : l0.length ≤ c0) (hr1 : Kd.C (Kd.int .i64) w A1 l1.length l1) (hc1 : l1.length ≤ c1) (h : grid_Behind.f k l0 l1 = some r) :
  Calls Try.prog 35 #[.slice A0 l0.length c0, .slice A1 l1.length c1] w fun e w' => ∃ v0_ : Value, e = .returned (v0_) ∧ Kd.S (Kd.slice 3 (Kd.int .i64)) 26 w' w.heap.size (fun _ => True) v0_ r ∧ Below w.heap.size w w' := by
 have HR0 := Aside0.mk hr0
 have HC0 := Aside0.mk hc0
 clear hr0 hc0
 have HR1 := Aside0.mk hr1
 have HC1 := Aside0.mk hc1
 clear hr1 hc1
 have HB := Aside0.mk (Below.refl w.heap.size w)
 have H : ((grid_table.f k (l0.length : Int) (l1.length : Int)).bind fun t126 => (grid_Behind.l0 k l0 l1 t126 (wrap64 ((l0.length : Int) - 1)))) = some r := h
 clear h
 replace H := Option.bind_eq_some_iff.mp H
 obtain ⟨t126, A30, H⟩ := H
 replace H : (grid_Behind.l0 k l0 l1 t126 (wrap64 ((l0.length : Int) - 1))) = some r := H
 have A3 := Aside0.mk A30
 clear A30
 have H' := Aside0.mk H
 clear H
 go_enter Try.func35, Try.ntmps35
 try dsimp only [List.append]
 go_wp2_with (first | ((first | (with_reducible refine gate_callee (f := 39) rfl ?_); refine goesL_ (some 12) rfl rfl Try.func39 (by kernel_rfl) rfl #[.int .i64 (l0.length : Int), .int .i64 (l1.length : Int)] rfl (by (try simp only [List.map_toArray, List.map_cons, List.map_nil]); first | done | rfl | (simp only [List.length_drop, List.length_take]; rfl)) ?_ | go_at_call 39); (with_reducible refine (grid_table.calls k (l0.length : Int) (l1.length : Int) t126 _ A3.out).mono ?_); rintro e w4 ⟨v127, rfl, ho0, hb⟩; (try refine ⟨_, rfl, ?_⟩); have n0_ := Aside0.mk (Kd.S_lower ho0 (below_size (by repeat (first | (with_reducible first | exact HB.out | apply below_alloc | apply pw_below_drewN | apply below_drew1) | exact HB.out)))); have n1_ := Aside0.mk (below_step (by repeat (first | (with_reducible first | exact HB.out | apply below_alloc | apply pw_below_drewN | apply below_drew1) | exact HB.out)) hb); clear HB; have HO128 := n0_; have HB := n1_; clear n0_ n1_; (try clear hb); (try clear hb2); (try clear hk); (try clear hi); (try clear ho0)))
 go_loopg [6] k (fun kq v6 w' => ∃ (x5_1 : List (List Int)) (x6_1 : Int), v6 = .int .i64 x6_1 ∧ Aside0 (grid_Behind.l0 kq l0 l1 x5_1 x6_1 = some r) ∧ Aside0 (kq ≤ k) ∧ Aside0 (Kd.S (Kd.slice 3 (Kd.int .i64)) 26 w' w.heap.size (fun _ => True) v127 x5_1) ∧ Aside0 (Below w.heap.size w w'))
 case atStart => exact ⟨(t126), (wrap64 ((l0.length : Int) - 1)), (by first | rfl | (simp; done) | (simp [*]; done)), H', ⟨Nat.le_refl _⟩, ⟨by (with_reducible repeat (first | apply Kd.S_alloc | apply Kd.S_drewN | apply Kd.S_drew)); exact HO128.out⟩, ⟨by repeat (first | (with_reducible first | exact HB.out | apply below_alloc | apply pw_below_drewN | apply below_drew1) | exact HB.out)⟩⟩
 case round =>
  clear H'
  try clear c1
  try clear p2
  try clear c3
  obtain ⟨x5_1, x6_1, rfl, HA, HK1, HO_5, HB⟩ := hrel
  cases gk with
  | zero => exact absurd HA.out (by simp [grid_Behind.l0])
  | succ k1 =>
   have H := HA.out
   clear HA
   simp only [grid_Behind.l0] at H
   by_cases c5 : x6_1 ≥ 0
   ·rw [if_pos c5] at H
    have c5b0 : decide (0 ≤ x6_1) = true := decide_eq_true c5
    clear c5
    have H' := Aside0.mk H
    clear H
    go_wp2
    go_loopg [7] k1 (fun kq v7 w' => ∃ (x5_2 : List (List Int)) (x7_2 : Int), v7 = .int .i64 x7_2 ∧ Aside0 (grid_Behind.l1 kq l0 l1 x5_2 x6_1 x7_2 = some r) ∧ Aside0 (kq ≤ k1) ∧ Aside0 (Kd.S (Kd.slice 3 (Kd.int .i64)) 26 w' w.heap.size (fun _ => True) v127 x5_2) ∧ Aside0 (Below w.heap.size w w'))
    case atStart => exact ⟨(x5_1), (wrap64 ((l1.length : Int) - 1)), (by first | rfl | (simp; done) | (simp [*]; done)), H', ⟨Nat.le_refl _⟩, ⟨by (with_reducible repeat (first | apply Kd.S_alloc | apply Kd.S_drewN | apply Kd.S_drew)); exact HO_5.out⟩, ⟨by repeat (first | (with_reducible first | exact HB.out | apply below_alloc | apply pw_below_drewN | apply below_drew1) | exact HB.out)⟩⟩
    case round =>
     clear H'
     try clear c1
     try clear p2
     try clear c3
     try clear c5
     try clear c5b0
     try clear p2
     obtain ⟨x5_2, x7_2, rfl, HA, HK2, HO_5, HB⟩ := hrel
     cases gk with
     | zero => exact absurd HA.out (by simp [grid_Behind.l1])
     | succ k2 =>
      have H := HA.out
      clear HA
      simp only [grid_Behind.l1] at H
      by_cases c6 : x7_2 ≥ 0
      ·rw [if_pos c6] at H
       have c6b0 : decide (0 ≤ x7_2) = true := decide_eq_true c6
       clear c6
       by_cases c7 : 0 ≤ x6_1
       ·rw [if_pos c7] at H
        have c7b0 : decide (0 ≤ x6_1) = true := decide_eq_true c7
        clear c7
        by_cases c8 : x6_1 < (l0.length : Int)
        ·rw [if_pos c8] at H
         have c8b0 : decide (x6_1 < (l0.length : Int)) = true := decide_eq_true c8
         clear c8
         by_cases c9 : 0 ≤ x7_2
         ·rw [if_pos c9] at H
          have c9b0 : decide (0 ≤ x7_2) = true := decide_eq_true c9
          clear c9
          by_cases c10 : x7_2 < (l1.length : Int)
          ·rw [if_pos c10] at H
           have c10b0 : decide (x7_2 < (l1.length : Int)) = true := decide_eq_true c10
           clear c10
           by_cases c11 : (rd l0 x6_1) = (rd l1 x7_2)
           ·rw [if_pos c11] at H
            have c11b0 : ((rd l0 x6_1) == (rd l1 x7_2)) = true := beq_iff_eq.mpr c11
            have c11b1 : ((rd l0 x6_1) != (rd l1 x7_2)) = false := bne_eq_false_iff_eq.mpr c11
            clear c11
            by_cases c12 : x6_1 < (x5_2.length : Int)
            ·rw [if_pos c12] at H
             have c12b0 : decide (x6_1 < (x5_2.length : Int)) = true := decide_eq_true c12
             clear c12
             obtain ⟨ji13, hji13⟩ : ∃ j_ : Int, (wrap64 (x6_1 + 1)) = j_ := ⟨_, rfl⟩
             replace H : (if 0 ≤ (ji13) then (if (ji13) < (x5_2.length : Int) then (if 0 ≤ (wrap64 (x7_2 + 1)) then (if (wrap64 (x7_2 + 1)) < ((rd_L2 x5_2 (ji13)).length : Int) then (if x7_2 < ((rd_L2 x5_2 x6_1).length : Int) then (grid_Behind.l1 k2 l0 l1 (x5_2.set (x6_1 : Int).toNat ((rd_L2 x5_2 x6_1).set (x7_2 : Int).toNat (wrap64 ((rd (rd_L2 x5_2 (ji13)) (wrap64 (x7_2 + 1))) + 1)))) x6_1 (wrap64 (x7_2 - 1))) else (none)) else (none)) else (none)) else (none)) else (none)) = some r := by first | (rw [hji13] at H; exact H) | (simp only [hji13] at H ⊢; exact H)
             have hji13w : (IntKind.i64.wrap (x6_1 + 1)) = ji13 := (i64_w _).trans hji13
             by_cases c14 : 0 ≤ (ji13)
             ·rw [if_pos c14] at H
              have c14b0 : decide (0 ≤ (ji13)) = true := decide_eq_true c14
              clear c14
              by_cases c15 : (ji13) < (x5_2.length : Int)
              ·rw [if_pos c15] at H
               have c15b0 : decide ((ji13) < (x5_2.length : Int)) = true := decide_eq_true c15
               clear c15
               obtain ⟨ji16, hji16⟩ : ∃ j_ : Int, (wrap64 (x7_2 + 1)) = j_ := ⟨_, rfl⟩
               replace H : (if 0 ≤ (ji16) then (if (ji16) < ((rd_L2 x5_2 (ji13)).length : Int) then (if x7_2 < ((rd_L2 x5_2 x6_1).length : Int) then (grid_Behind.l1 k2 l0 l1 (x5_2.set (x6_1 : Int).toNat ((rd_L2 x5_2 x6_1).set (x7_2 : Int).toNat (wrap64 ((rd (rd_L2 x5_2 (ji13)) (ji16)) + 1)))) x6_1 (wrap64 (x7_2 - 1))) else (none)) else (none)) else (none)) = some r := by first | (rw [hji16] at H; exact H) | (simp only [hji16] at H ⊢; exact H)
               have hji16w : (IntKind.i64.wrap (x7_2 + 1)) = ji16 := (i64_w _).trans hji16
               by_cases c17 : 0 ≤ (ji16)
               ·rw [if_pos c17] at H
                have c17b0 : decide (0 ≤ (ji16)) = true := decide_eq_true c17
                clear c17
                by_cases c18 : (ji16) < ((rd_L2 x5_2 (ji13)).length : Int)
                ·rw [if_pos c18] at H
                 have c18b0 : decide ((ji16) < ((rd_L2 x5_2 (ji13)).length : Int)) = true := decide_eq_true c18
                 clear c18
                 by_cases c19 : x7_2 < ((rd_L2 x5_2 x6_1).length : Int)
                 ·rw [if_pos c19] at H
                  have c19b0 : decide (x7_2 < ((rd_L2 x5_2 x6_1).length : Int)) = true := decide_eq_true c19
                  clear c19
                  obtain ⟨y134, hy134⟩ : ∃ y_ : List Int, y_ = ((rd_L2 x5_2 x6_1).set (x7_2 : Int).toNat (wrap64 ((rd (rd_L2 x5_2 (ji13)) (ji16)) + 1))) := ⟨_, rfl⟩
                  replace H : (grid_Behind.l1 k2 l0 l1 (x5_2.set (x6_1 : Int).toNat y134) x6_1 (wrap64 (x7_2 - 1))) = some r := by first | (rw [hy134]; with_reducible exact H) | (have H2_ := (Option.bind_some _ _).symm.trans H; rw [hy134]; with_reducible exact H2_) | (have H2_ := (Option.bind_some _ _).symm.trans H; with_reducible exact H2_) | with_reducible exact H | (rw [hy134]; exact H) | exact H
                  have Ny134 := Aside0.mk hy134
                  clear hy134
                  obtain ⟨y136, hy136⟩ : ∃ y_ : List (List Int), y_ = (x5_2.set (x6_1 : Int).toNat y134) := ⟨_, rfl⟩
                  replace H : (grid_Behind.l1 k2 l0 l1 y136 x6_1 (wrap64 (x7_2 - 1))) = some r := by first | (rw [hy136]; with_reducible exact H) | (have H2_ := (Option.bind_some _ _).symm.trans H; rw [hy136]; with_reducible exact H2_) | (have H2_ := (Option.bind_some _ _).symm.trans H; with_reducible exact H2_) | with_reducible exact H | (rw [hy136]; exact H) | exact H
                  have Ny136 := Aside0.mk hy136
                  clear hy136
                  have H' := Aside0.mk H
                  clear H
                  try go_wp2
                  have n0_ := Aside0.mk (Kd.S_drew HO_5.out)
                  have n1_ := Aside0.mk (below_drew1 HB.out)
                  clear HO_5
                  clear HB
                  have HO_5 := n0_
                  have HB := n1_
                  clear n0_ n1_
                  have p129 : 0 ≤ (x6_1 : Int) := of_decide_eq_true (by first | (with_reducible assumption) | assumption)
                  have q129 : x6_1 < (l0.length : Int) := of_decide_eq_true (by first | (with_reducible assumption) | assumption)
                  obtain ⟨ad129, e129, hx129_0⟩ := Kd.at_int HR0.out x6_1 p129 q129
                  have hw129_0 := hx129_0
                  cases e129
                  replace hx129_0 := (HB.out.cell (World.block_lt_of_cell? w _ hx129_0)).trans hx129_0
                  replace p129 := eq_true p129
                  replace q129 := eq_true q129
                  have p130 : 0 ≤ (x7_2 : Int) := of_decide_eq_true (by first | (with_reducible assumption) | assumption)
                  have q130 : x7_2 < (l1.length : Int) := of_decide_eq_true (by first | (with_reducible assumption) | assumption)
                  obtain ⟨ad130, e130, hx130_0⟩ := Kd.at_int HR1.out x7_2 p130 q130
                  have hw130_0 := hx130_0
                  cases e130
                  replace hx130_0 := (HB.out.cell (World.block_lt_of_cell? w _ hx130_0)).trans hx130_0
                  replace p130 := eq_true p130
                  replace q130 := eq_true q130
                  refine start_ (n := 9) (S := fun w' => w'.cell? (ad129.add (x6_1).toNat) = some (.int .i64 (rd l0 x6_1)) ∧ w'.cell? (ad130.add (x7_2).toNat) = some (.int .i64 (rd l1 x7_2))) (ds := []) #[N,N,N,N,N,N,N,N,N] (by kernel_rfl) rfl rfl ⟨((HB.out.cell (World.block_lt_of_cell? w _ hw129_0)).trans hw129_0), ((HB.out.cell (World.block_lt_of_cell? w _ hw130_0)).trans hw130_0)⟩ (fun hHeld => ?_); refine with_tabW grid_Behind.tab8 grid_Behind.bits8 (fun HT_ HW_ => ?_)
                  generalize wr.drew = w21 at HO_5 HB hx129_0 hx130_0 hHeld ⊢
                  refine pure_ (i := 0) (N := some 27) (v := ?_) (a' := ?_) #[Y,N,N,N,N,N,N,N,N] rfl rfl (any_of HT_.out (by kernel_rfl)) (fun _ _ _ h => h) (Or.inl ⟨by rfl, ?_⟩) ?_ ?_; rotate_left
                  ·intro w'; go_simp; with_reducible rfl
                  rotate_left
                  ·simp only [Act.put, sA,sB,sC, i64_w, i32_w]; rfl
                  refine pure_ (i := 1) (N := some 28) (v := ?_) (a' := ?_) #[Y,Y,N,N,N,N,N,N,N] rfl rfl (any_of HT_.out (by kernel_rfl)) (fun _ _ _ h => h) (Or.inl ⟨by rfl, ?_⟩) ?_ ?_; rotate_left
                  ·intro w'; go_simp; with_reducible rfl
                  rotate_left
                  ·simp only [Act.put, sA,sB,sC, i64_w, i32_w]; rfl
                  refine pure_ (i := 2) (N := some 29) (v := ?_) (a' := ?_) #[Y,Y,Y,N,N,N,N,N,N] rfl rfl (any_of HT_.out (by kernel_rfl)) (fun _ _ _ h => h) (Or.inl ⟨by rfl, ?_⟩) ?_ ?_; rotate_left
                  ·intro w'; go_simp; with_reducible rfl
                  rotate_left
                  ·simp only [Act.put, sA,sB,sC, i64_w, i32_w]; rfl
                  refine pure_ (i := 4) (N := some 31) (v := ?_) (a' := ?_) #[Y,Y,Y,N,Y,N,N,N,N] rfl rfl (any_of HT_.out (by kernel_rfl)) (fun _ _ _ h => h) (Or.inl ⟨by rfl, ?_⟩) ?_ ?_; rotate_left
                  ·intro w'; go_simp; with_reducible rfl
                  rotate_left
                  ·simp only [Act.put, sA,sB,sC, i64_w, i32_w]; rfl
                  refine pure_ (i := 5) (N := some 32) (v := ?_) (a' := ?_) #[Y,Y,Y,N,Y,Y,N,N,N] rfl rfl (any_of HT_.out (by kernel_rfl)) (fun _ _ _ h => h) (Or.inl ⟨by rfl, ?_⟩) ?_ ?_; rotate_left
                  ·intro w'; go_simp; with_reducible rfl
                  rotate_left
                  ·simp only [Act.put, sA,sB,sC, i64_w, i32_w]; rfl
                  refine pure_ (i := 6) (N := some 33) (v := ?_) (a' := ?_) #[Y,Y,Y,N,Y,Y,Y,N,N] rfl rfl (any_of HT_.out (by kernel_rfl)) (fun _ _ _ h => h) (Or.inl ⟨by rfl, ?_⟩) ?_ ?_; rotate_left
                  ·intro w'; go_simp; with_reducible rfl
                  rotate_left
                  ·simp only [Act.put, sA,sB,sC, i64_w, i32_w]; rfl
                  refine take_ (i := 3) (N := some 30) (v := ?_) (a' := ?_) #[Y,Y,Y,Y,Y,Y,Y,N,N] rfl rfl (take_ofW HT_.out HW_.out (by kernel_rfl)) (fun _ _ _ h => h) (Or.inl ⟨by rfl, ?_⟩) hHeld ?_ ?_; rotate_left
                  ·rintro w' ⟨s0, s1⟩; go_simp; with_reducible rfl
                  rotate_left
                  ·simp only [Act.put, sA,sB,sC, i64_w, i32_w]; rfl
                  refine take_ (i := 7) (N := some 34) (v := ?_) (a' := ?_) #[Y,Y,Y,Y,Y,Y,Y,Y,N] rfl rfl (take_ofW HT_.out HW_.out (by kernel_rfl)) (fun _ _ _ h => h) (Or.inl ⟨by rfl, ?_⟩) hHeld ?_ ?_; rotate_left
                  ·rintro w' ⟨s0, s1⟩; go_simp; with_reducible rfl
                  rotate_left
                  ·simp only [Act.put, sA,sB,sC, i64_w, i32_w]; rfl
                  refine pure_ (i := 8) (N := some 35) (v := ?_) (a' := ?_) #[Y,Y,Y,Y,Y,Y,Y,Y,Y] rfl rfl (any_of HT_.out (by kernel_rfl)) (fun _ _ _ h => h) (Or.inl ⟨by rfl, ?_⟩) ?_ ?_; rotate_left
                  ·intro w'; go_simp; with_reducible rfl
                  rotate_left
                  ·simp only [Act.put, sA,sB,sC, i64_w, i32_w]; rfl
                  refine done_ (done_of HT_.out (by kernel_rfl)) ?_
                  try go_wp2
                  have n0_ := Aside0.mk (Kd.S_drew HO_5.out)
                  have n1_ := Aside0.mk (below_drew1 HB.out)
                  clear HO_5
                  clear HB
                  have HO_5 := n0_
                  have HB := n1_
                  clear n0_ n1_
                  obtain ⟨Ao23, co23, eo23⟩ := Kd.S_slice HO_5.out
                  (first | subst eo23 | (injection eo23 with f1_ f2_ f3_; have f4_ := f1_.symm; have f5_ := f3_.symm; clear f1_ f2_ f3_; subst f4_; subst f5_))
                  have p131 : 0 ≤ (x6_1 : Int) := of_decide_eq_true (by first | (with_reducible assumption) | assumption)
                  have q131 : x6_1 < (x5_2.length : Int) := of_decide_eq_true (by first | (with_reducible assumption) | assumption)
                  try (obtain ⟨Ap131, cp131, ep131⟩ := Kd.S_slice HO_5.out; subst ep131)
                  obtain ⟨ad131, A131_0, c131_0, e131, hx131_0, hl131_0, hi131_0⟩ := at_L2 (Kd.S_reads' HO_5.out).2.2 x6_1 p131 q131
                  cases e131
                  obtain ⟨ce131, hce131, hMe131, hcc131⟩ := Kd.S_get HO_5.out [] x6_1 p131 (by first | exact q131 | exact of_decide_eq_true (by first | (with_reducible assumption) | assumption) | (have e_ := (Kd.S_reads' HO_5.out).1; omega))
                  obtain ⟨ve131_0, rfl, ge131_0⟩ := hMe131
                  have hv131_0 := hcc131 0 _ rfl
                  rw [Nat.add_zero, show ((Kd.slice 3 (Kd.int .i64))).sz = 1 from rfl, Nat.mul_one] at hv131_0
                  replace hv131_0 := Option.some.inj (hv131_0.symm.trans hx131_0)
                  rw [hv131_0] at ge131_0
                  have HL131_0 := Aside0.mk (show Kd.R (Kd.int .i64) 3 _ _ _ _ (rd_L2 x5_2 x6_1) from ge131_0)
                  clear hv131_0 ge131_0
                  have HX131_0 := Aside0.mk hx131_0
                  clear hcc131 hce131
                  have HR131_0 := Aside0.mk hi131_0
                  have HC131_0 := Aside0.mk hl131_0
                  clear hi131_0 hl131_0
                  replace p131 := eq_true p131
                  replace q131 := eq_true q131
                  have p132 : 0 ≤ ((ji13) : Int) := of_decide_eq_true (by first | (with_reducible assumption) | assumption)
                  have q132 : (ji13) < (x5_2.length : Int) := of_decide_eq_true (by first | (with_reducible assumption) | assumption)
                  try (obtain ⟨Ap132, cp132, ep132⟩ := Kd.S_slice HO_5.out; subst ep132)
                  obtain ⟨ad132, A132_0, c132_0, e132, hx132_0, hl132_0, hi132_0⟩ := at_L2 (Kd.S_reads' HO_5.out).2.2 (ji13) p132 q132
                  obtain rfl : ad131 = ad132 := (by injection e132)
                  obtain ⟨ce132, hce132, hMe132, hcc132⟩ := Kd.S_get HO_5.out [] (ji13) p132 (by first | exact q132 | exact of_decide_eq_true (by first | (with_reducible assumption) | assumption) | (have e_ := (Kd.S_reads' HO_5.out).1; omega))
                  obtain ⟨ve132_0, rfl, ge132_0⟩ := hMe132
                  have hv132_0 := hcc132 0 _ rfl
                  rw [Nat.add_zero, show ((Kd.slice 3 (Kd.int .i64))).sz = 1 from rfl, Nat.mul_one] at hv132_0
                  replace hv132_0 := Option.some.inj (hv132_0.symm.trans hx132_0)
                  rw [hv132_0] at ge132_0
                  have HL132_0 := Aside0.mk (show Kd.R (Kd.int .i64) 3 _ _ _ _ (rd_L2 x5_2 (ji13)) from ge132_0)
                  clear hv132_0 ge132_0
                  have HX132_0 := Aside0.mk hx132_0
                  clear hcc132 hce132
                  have HR132_0 := Aside0.mk hi132_0
                  have HC132_0 := Aside0.mk hl132_0
                  clear hi132_0 hl132_0
                  replace p132 := eq_true p132
                  replace q132 := eq_true q132
                  have p133 : 0 ≤ ((ji16) : Int) := of_decide_eq_true (by first | (with_reducible assumption) | assumption)
                  have q133 : (ji16) < ((rd_L2 x5_2 (ji13)).length : Int) := of_decide_eq_true (by first | (with_reducible assumption) | assumption)
                  obtain ⟨ad133, e133, hx133_0⟩ := Kd.at_int (by repeat (first | (with_reducible exact HR132_0.out) | (with_reducible refine Kd.C_alloc ?_ _) | (with_reducible refine Kd.C_drewN ?_ _) | (with_reducible refine Kd.C_drew ?_) | exact HR132_0.out)) (ji16) p133 q133
                  cases e133
                  replace p133 := eq_true p133
                  replace q133 := eq_true q133
                  have p20 : 0 ≤ (x7_2 : Int) := of_decide_eq_true (by first | (with_reducible assumption) | assumption)
                  have q20 : (x7_2 : Int) < (((rd_L2 x5_2 x6_1).length : Int) : Int) := of_decide_eq_true (by first | (with_reducible assumption) | assumption)
                  obtain ⟨go20, co20, eo20, gb20, gl20, cl20, HG20⟩ := Kd.R_form HL131_0.out (by omega)
                  (first | cases eo20 | (injection eo20 with ea_ en_ ec_; (first | subst ea_ | (injection ea_ with ea_; subst ea_)); subst ec_; clear en_))
                  have GB20 := Aside0.mk gb20
                  have GG20 := Aside0.mk HG20
                  clear gb20 gl20 HG20
                  obtain ⟨hx20_0, hf20_0⟩ := Kd.R_celln 0 HL131_0.out (x7_2 : Int) p20 q20
                  replace p20 := eq_true p20
                  replace q20 := eq_true q20
                  have hq24 : (x6_1 : Int) < (x5_2.length : Int) := (by have h_ : (x6_1 : Int) < ((x5_2.length : Int) : Int) := of_decide_eq_true (by first | (with_reducible assumption) | assumption); first | exact h_ | (have e_ := (Kd.S_reads' HO_5.out).1; omega) | simpa only [List.length_set, List.length_set] using h_)
                  obtain ⟨oki24, ce24, hcl24, hM24, hcc24, hok24, hbk24⟩ := Kd.S_borrow HO_5.out [] (x6_1 : Int) (of_decide_eq_true (by first | (with_reducible assumption) | assumption)) hq24
                  obtain ⟨ve24_0, rfl, ge24_0⟩ := hM24
                  have hv24 := hcc24 0 _ rfl
                  rw [Nat.add_zero, show ((Kd.slice 3 (Kd.int .i64))).sz = 1 from rfl, Nat.mul_one] at hv24
                  replace hv24 := Option.some.inj (hv24.symm.trans HX131_0.out)
                  subst hv24
                  clear hcc24 hcl24
                  replace ge24_0 := (show Kd.R (Kd.int .i64) 3 _ _ _ _ (rd_L2 x5_2 x6_1) from ge24_0)
                  have HP24 := Kd.R_putg ge24_0 (x7_2 : Int) (wrap64 ((rd (rd_L2 x5_2 (ji13)) (ji16)) + 1))
                  rw [← Ny134.out] at HP24
                  have HS24 := hbk24 HP24.2 (fun k_ e_ => by injection e_ with e_; subst e_; exact ge24_0.1 _ rfl) (x' := y134) (Kd.M_row HP24.1)
                  rw [← Ny136.out] at HS24
                  have HQ24 := Aside0.mk HS24
                  clear HP24 HS24 hbk24 hok24
                  refine start_ (n := 17) (S := fun w' => w'.cell? (ad131.add (x6_1).toNat) = some (.slice (some ⟨go20, 0, none⟩) (rd_L2 x5_2 x6_1).length c131_0) ∧ w'.cell? (ad131.add ((ji13)).toNat) = some (.slice (some ad133) (rd_L2 x5_2 (ji13)).length c132_0) ∧ w'.cell? (ad133.add ((ji16)).toNat) = some (.int .i64 (rd (rd_L2 x5_2 (ji13)) (ji16)))) (ds := [16]) #[N,N,N,N,N,N,N,N,N,N,N,N,N,N,N,N,N] (by kernel_rfl) rfl rfl ⟨hx131_0, hx132_0, hx133_0⟩ (fun hHeld => ?_); refine with_tabW grid_Behind.tab9 grid_Behind.bits9 (fun HT_ HW_ => ?_)
                  generalize w21.drew = w22 at HO_5 HB GG20 HL131_0 HL132_0 HQ24 HR131_0 HR132_0 HX131_0 HX132_0 hf20_0 hx131_0 hx132_0 hx133_0 hx20_0 hHeld ⊢
                  refine pure_ (i := 0) (N := some 36) (v := ?_) (a' := ?_) #[Y,N,N,N,N,N,N,N,N,N,N,N,N,N,N,N,N] rfl rfl (any_of HT_.out (by kernel_rfl)) (fun _ _ _ h => h) (Or.inl ⟨by rfl, ?_⟩) ?_ ?_; rotate_left
                  ·intro w'; go_simp; with_reducible rfl
                  rotate_left
                  ·simp only [Act.put, sA,sB,sC, i64_w, i32_w]; rfl
                  refine pure_ (i := 1) (N := some 37) (v := ?_) (a' := ?_) #[Y,Y,N,N,N,N,N,N,N,N,N,N,N,N,N,N,N] rfl rfl (any_of HT_.out (by kernel_rfl)) (fun _ _ _ h => h) (Or.inl ⟨by rfl, ?_⟩) ?_ ?_; rotate_left
                  ·intro w'; go_simp; with_reducible rfl
                  rotate_left
                  ·simp only [Act.put, sA,sB,sC, i64_w, i32_w]; rfl
                  refine pure_ (i := 2) (N := some 38) (v := ?_) (a' := ?_) #[Y,Y,Y,N,N,N,N,N,N,N,N,N,N,N,N,N,N] rfl rfl (any_of HT_.out (by kernel_rfl)) (fun _ _ _ h => h) (Or.inl ⟨by rfl, ?_⟩) ?_ ?_; rotate_left
                  ·intro w'; go_simp; with_reducible rfl
                  rotate_left
                  ·simp only [Act.put, sA,sB,sC, i64_w, i32_w]; rfl
                  refine pure_ (i := 4) (N := some 40) (v := ?_) (a' := ?_) #[Y,Y,Y,N,Y,N,N,N,N,N,N,N,N,N,N,N,N] rfl rfl (any_of HT_.out (by kernel_rfl)) (fun _ _ _ h => h) (Or.inl ⟨by rfl, ?_⟩) ?_ ?_; rotate_left
                  ·intro w'; go_simp; with_reducible rfl
                  rotate_left
                  ·simp only [Act.put, sA,sB,sC, i64_w, i32_w]; rfl
                  refine pure_ (i := 5) (N := some 41) (v := ?_) (a' := ?_) #[Y,Y,Y,N,Y,Y,N,N,N,N,N,N,N,N,N,N,N] rfl rfl (any_of HT_.out (by kernel_rfl)) (fun _ _ _ h => h) (Or.inl ⟨by rfl, ?_⟩) ?_ ?_; rotate_left
                  ·intro w'; go_simp; with_reducible rfl
                  rotate_left
                  ·simp only [Act.put, sA,sB,sC, i64_w, i32_w]; rfl
                  refine pure_ (i := 6) (N := some 42) (v := ?_) (a' := ?_) #[Y,Y,Y,N,Y,Y,Y,N,N,N,N,N,N,N,N,N,N] rfl rfl (any_of HT_.out (by kernel_rfl)) (fun _ _ _ h => h) (Or.inl ⟨by rfl, ?_⟩) ?_ ?_; rotate_left
                  ·intro w'; go_simp; with_reducible rfl
                  rotate_left
                  ·simp only [Act.put, sA,sB,sC, i64_w, i32_w]; rfl
                  refine pure_ (i := 7) (N := some 43) (v := ?_) (a' := ?_) #[Y,Y,Y,N,Y,Y,Y,Y,N,N,N,N,N,N,N,N,N] rfl rfl (any_of HT_.out (by kernel_rfl)) (fun _ _ _ h => h) (Or.inl ⟨by rfl, ?_⟩) ?_ ?_; rotate_left
                  ·intro w'; go_simp; with_reducible rfl
                  rotate_left
                  ·simp only [Act.put, sA,sB,sC, i64_w, i32_w]; rfl
                  refine pure_ (i := 8) (N := some 44) (v := ?_) (a' := ?_) #[Y,Y,Y,N,Y,Y,Y,Y,Y,N,N,N,N,N,N,N,N] rfl rfl (any_of HT_.out (by kernel_rfl)) (fun _ _ _ h => h) (Or.inl ⟨by rfl, ?_⟩) ?_ ?_; rotate_left
                  ·intro w'; go_simp; with_reducible rfl
                  rotate_left
                  ·simp only [Act.put, sA,sB,sC, i64_w, i32_w]; rfl
                  refine pure_ (i := 10) (N := some 46) (v := ?_) (a' := ?_) #[Y,Y,Y,N,Y,Y,Y,Y,Y,N,Y,N,N,N,N,N,N] rfl rfl (any_of HT_.out (by kernel_rfl)) (fun _ _ _ h => h) (Or.inl ⟨by rfl, ?_⟩) ?_ ?_; rotate_left
                  ·intro w'; go_simp; with_reducible rfl
                  rotate_left
                  ·simp only [Act.put, sA,sB,sC, i64_w, i32_w]; rfl
                  refine pure_ (i := 11) (N := some 47) (v := ?_) (a' := ?_) #[Y,Y,Y,N,Y,Y,Y,Y,Y,N,Y,Y,N,N,N,N,N] rfl rfl (any_of HT_.out (by kernel_rfl)) (fun _ _ _ h => h) (Or.inl ⟨by rfl, ?_⟩) ?_ ?_; rotate_left
                  ·intro w'; go_simp; with_reducible rfl
                  rotate_left
                  ·simp only [Act.put, sA,sB,sC, i64_w, i32_w]; rfl
                  refine take_ (i := 3) (N := some 39) (v := ?_) (a' := ?_) #[Y,Y,Y,Y,Y,Y,Y,Y,Y,N,Y,Y,N,N,N,N,N] rfl rfl (take_ofW HT_.out HW_.out (by kernel_rfl)) (fun _ _ _ h => h) (Or.inl ⟨by rfl, ?_⟩) hHeld ?_ ?_; rotate_left
                  ·rintro w' ⟨s0, s1, s2⟩; go_simp; with_reducible rfl
                  rotate_left
                  ·simp only [Act.put, sA,sB,sC, i64_w, i32_w]; rfl
                  refine take_ (i := 9) (N := some 45) (v := ?_) (a' := ?_) #[Y,Y,Y,Y,Y,Y,Y,Y,Y,Y,Y,Y,N,N,N,N,N] rfl rfl (take_ofW HT_.out HW_.out (by kernel_rfl)) (fun _ _ _ h => h) (Or.inl ⟨by rfl, ?_⟩) hHeld ?_ ?_; rotate_left
                  ·rintro w' ⟨s0, s1, s2⟩; go_simp; with_reducible rfl
                  rotate_left
                  ·simp only [Act.put, sA,sB,sC, i64_w, i32_w]; rfl
                  refine pure_ (i := 12) (N := some 48) (v := ?_) (a' := ?_) #[Y,Y,Y,Y,Y,Y,Y,Y,Y,Y,Y,Y,Y,N,N,N,N] rfl rfl (any_of HT_.out (by kernel_rfl)) (fun _ _ _ h => h) (Or.inl ⟨by rfl, ?_⟩) ?_ ?_; rotate_left
                  ·intro w'; go_simp; with_reducible rfl
                  rotate_left
                  ·simp only [Act.put, sA,sB,sC, i64_w, i32_w]; rfl
                  refine take_ (i := 13) (N := some 49) (v := ?_) (a' := ?_) #[Y,Y,Y,Y,Y,Y,Y,Y,Y,Y,Y,Y,Y,Y,N,N,N] rfl rfl (take_ofW HT_.out HW_.out (by kernel_rfl)) (fun _ _ _ h => h) (Or.inl ⟨by rfl, ?_⟩) hHeld ?_ ?_; rotate_left
                  ·rintro w' ⟨s0, s1, s2⟩; go_simp; with_reducible rfl
                  rotate_left
                  ·simp only [Act.put, sA,sB,sC, i64_w, i32_w]; rfl
                  refine pure_ (i := 14) (N := some 50) (v := ?_) (a' := ?_) #[Y,Y,Y,Y,Y,Y,Y,Y,Y,Y,Y,Y,Y,Y,Y,N,N] rfl rfl (any_of HT_.out (by kernel_rfl)) (fun _ _ _ h => h) (Or.inl ⟨by rfl, ?_⟩) ?_ ?_; rotate_left
                  ·intro w'; go_simp; with_reducible rfl
                  rotate_left
                  ·simp only [Act.put, sA,sB,sC, i64_w, i32_w]; rfl
                  refine pure_ (i := 15) (N := some 51) (v := ?_) (a' := ?_) #[Y,Y,Y,Y,Y,Y,Y,Y,Y,Y,Y,Y,Y,Y,Y,Y,N] rfl rfl (any_of HT_.out (by kernel_rfl)) (fun _ _ _ h => h) (Or.inl ⟨by rfl, ?_⟩) ?_ ?_; rotate_left
                  ·intro w'; go_simp; with_reducible rfl
                  rotate_left
                  ·simp only [Act.put, sA,sB,sC, i64_w, i32_w]; rfl
                  refine last_ (i := 16) (N := none) #[Y,Y,Y,Y,Y,Y,Y,Y,Y,Y,Y,Y,Y,Y,Y,Y,Y] rfl rfl (one_of HT_.out (by kernel_rfl)) (by decide) (fun K hK => ?_)
                  refine skip_ (w1 := ?_) (by rfl) rfl ?_ ?_
                  rotate_left
                  ·go_simp; rfl
                  refine hK.out _ _ ?_
                  clear hK K
                  refine done_ (done_of HT_.out (by kernel_rfl)) ?_
                  try go_wp2
                  go_roundg k2
                  case measure => have := HK1.out; have := HK2.out; omega
                  case rel => exact ⟨(y136), (wrap64 (x7_2 - 1)), (by first | rfl | (simp; done) | (simp [*]; done)), H', ⟨by have := HK1.out; have := HK2.out; omega⟩, ⟨by (with_reducible repeat (first | apply Kd.S_alloc | apply Kd.S_drewN | apply Kd.S_drew)); exact HQ24.out⟩, ⟨by repeat (first | (with_reducible first | exact HB.out | apply below_alloc | apply pw_below_drewN | apply below_drew1 | refine below_set ?_ GB20.out) | exact HB.out)⟩⟩
                 ·rw [if_neg c19] at H
                  exact absurd H (by simp)
                ·rw [if_neg c18] at H
                 exact absurd H (by simp)
               ·rw [if_neg c17] at H
                exact absurd H (by simp)
              ·rw [if_neg c15] at H
               exact absurd H (by simp)
             ·rw [if_neg c14] at H
              exact absurd H (by simp)
            ·rw [if_neg c12] at H
             exact absurd H (by simp)
           ·rw [if_neg c11] at H
            have c11b0 : ((rd l0 x6_1) == (rd l1 x7_2)) = false := beq_eq_false_iff_ne.mpr c11
            have c11b1 : ((rd l0 x6_1) != (rd l1 x7_2)) = true := bne_iff_ne.mpr c11
            by_cases c26 : x6_1 < (x5_2.length : Int)
            ·rw [if_pos c26] at H
             have c26b0 : decide (x6_1 < (x5_2.length : Int)) = true := decide_eq_true c26
             clear c26
             obtain ⟨ji27, hji27⟩ : ∃ j_ : Int, (wrap64 (x6_1 + 1)) = j_ := ⟨_, rfl⟩
             replace H : (if 0 ≤ (ji27) then (if (ji27) < (x5_2.length : Int) then (if x7_2 < ((rd_L2 x5_2 (ji27)).length : Int) then (if 0 ≤ (wrap64 (x7_2 + 1)) then (if (wrap64 (x7_2 + 1)) < ((rd_L2 x5_2 x6_1).length : Int) then (if x7_2 < ((rd_L2 x5_2 x6_1).length : Int) then (grid_Behind.l1 k2 l0 l1 (x5_2.set (x6_1 : Int).toNat ((rd_L2 x5_2 x6_1).set (x7_2 : Int).toNat (mx (rd (rd_L2 x5_2 (ji27)) x7_2) (rd (rd_L2 x5_2 x6_1) (wrap64 (x7_2 + 1)))))) x6_1 (wrap64 (x7_2 - 1))) else (none)) else (none)) else (none)) else (none)) else (none)) else (none)) = some r := by first | (rw [hji27] at H; exact H) | (simp only [hji27] at H ⊢; exact H)
             have hji27w : (IntKind.i64.wrap (x6_1 + 1)) = ji27 := (i64_w _).trans hji27
             by_cases c28 : 0 ≤ (ji27)
             ·rw [if_pos c28] at H
              have c28b0 : decide (0 ≤ (ji27)) = true := decide_eq_true c28
              clear c28
              by_cases c29 : (ji27) < (x5_2.length : Int)
              ·rw [if_pos c29] at H
               have c29b0 : decide ((ji27) < (x5_2.length : Int)) = true := decide_eq_true c29
               clear c29
               by_cases c30 : x7_2 < ((rd_L2 x5_2 (ji27)).length : Int)
               ·rw [if_pos c30] at H
                have c30b0 : decide (x7_2 < ((rd_L2 x5_2 (ji27)).length : Int)) = true := decide_eq_true c30
                clear c30
                obtain ⟨ji31, hji31⟩ : ∃ j_ : Int, (wrap64 (x7_2 + 1)) = j_ := ⟨_, rfl⟩
                replace H : (if 0 ≤ (ji31) then (if (ji31) < ((rd_L2 x5_2 x6_1).length : Int) then (if x7_2 < ((rd_L2 x5_2 x6_1).length : Int) then (grid_Behind.l1 k2 l0 l1 (x5_2.set (x6_1 : Int).toNat ((rd_L2 x5_2 x6_1).set (x7_2 : Int).toNat (mx (rd (rd_L2 x5_2 (ji27)) x7_2) (rd (rd_L2 x5_2 x6_1) (ji31))))) x6_1 (wrap64 (x7_2 - 1))) else (none)) else (none)) else (none)) = some r := by first | (rw [hji31] at H; exact H) | (simp only [hji31] at H ⊢; exact H)
                have hji31w : (IntKind.i64.wrap (x7_2 + 1)) = ji31 := (i64_w _).trans hji31
                by_cases c32 : 0 ≤ (ji31)
                ·rw [if_pos c32] at H
                 have c32b0 : decide (0 ≤ (ji31)) = true := decide_eq_true c32
                 clear c32
                 by_cases c33 : (ji31) < ((rd_L2 x5_2 x6_1).length : Int)
                 ·rw [if_pos c33] at H
                  have c33b0 : decide ((ji31) < ((rd_L2 x5_2 x6_1).length : Int)) = true := decide_eq_true c33
                  clear c33
                  obtain ⟨ji34, hji34⟩ : ∃ j_ : Int, (mx (rd (rd_L2 x5_2 (ji27)) x7_2) (rd (rd_L2 x5_2 x6_1) (ji31))) = j_ := ⟨_, rfl⟩
                  replace H : (if x7_2 < ((rd_L2 x5_2 x6_1).length : Int) then (grid_Behind.l1 k2 l0 l1 (x5_2.set (x6_1 : Int).toNat ((rd_L2 x5_2 x6_1).set (x7_2 : Int).toNat (ji34))) x6_1 (wrap64 (x7_2 - 1))) else (none)) = some r := by first | (rw [hji34] at H; exact H) | (simp only [hji34] at H ⊢; exact H)
                  have hji34_ : (if (rd (rd_L2 x5_2 (ji27)) x7_2) < (rd (rd_L2 x5_2 x6_1) (ji31)) then (rd (rd_L2 x5_2 x6_1) (ji31)) else (rd (rd_L2 x5_2 (ji27)) x7_2)) = ji34 := hji34
                  by_cases c35 : x7_2 < ((rd_L2 x5_2 x6_1).length : Int)
                  ·rw [if_pos c35] at H
                   have c35b0 : decide (x7_2 < ((rd_L2 x5_2 x6_1).length : Int)) = true := decide_eq_true c35
                   clear c35
                   obtain ⟨y142, hy142⟩ : ∃ y_ : List Int, y_ = ((rd_L2 x5_2 x6_1).set (x7_2 : Int).toNat (ji34)) := ⟨_, rfl⟩
                   replace H : (grid_Behind.l1 k2 l0 l1 (x5_2.set (x6_1 : Int).toNat y142) x6_1 (wrap64 (x7_2 - 1))) = some r := by first | (rw [hy142]; with_reducible exact H) | (have H2_ := (Option.bind_some _ _).symm.trans H; rw [hy142]; with_reducible exact H2_) | (have H2_ := (Option.bind_some _ _).symm.trans H; with_reducible exact H2_) | with_reducible exact H | (rw [hy142]; exact H) | exact H
                   have Ny142 := Aside0.mk hy142
                   clear hy142
                   obtain ⟨y144, hy144⟩ : ∃ y_ : List (List Int), y_ = (x5_2.set (x6_1 : Int).toNat y142) := ⟨_, rfl⟩
                   replace H : (grid_Behind.l1 k2 l0 l1 y144 x6_1 (wrap64 (x7_2 - 1))) = some r := by first | (rw [hy144]; with_reducible exact H) | (have H2_ := (Option.bind_some _ _).symm.trans H; rw [hy144]; with_reducible exact H2_) | (have H2_ := (Option.bind_some _ _).symm.trans H; with_reducible exact H2_) | with_reducible exact H | (rw [hy144]; exact H) | exact H
                   have Ny144 := Aside0.mk hy144
                   clear hy144
                   have H' := Aside0.mk H
                   clear H
                   try go_wp2
                   have n0_ := Aside0.mk (Kd.S_drew HO_5.out)
                   have n1_ := Aside0.mk (below_drew1 HB.out)
                   clear HO_5
                   clear HB
                   have HO_5 := n0_
                   have HB := n1_
                   clear n0_ n1_
                   have p129 : 0 ≤ (x6_1 : Int) := of_decide_eq_true (by first | (with_reducible assumption) | assumption)
                   have q129 : x6_1 < (l0.length : Int) := of_decide_eq_true (by first | (with_reducible assumption) | assumption)
                   obtain ⟨ad129, e129, hx129_0⟩ := Kd.at_int HR0.out x6_1 p129 q129
                   have hw129_0 := hx129_0
                   cases e129
                   replace hx129_0 := (HB.out.cell (World.block_lt_of_cell? w _ hx129_0)).trans hx129_0
                   replace p129 := eq_true p129
                   replace q129 := eq_true q129
                   have p130 : 0 ≤ (x7_2 : Int) := of_decide_eq_true (by first | (with_reducible assumption) | assumption)
                   have q130 : x7_2 < (l1.length : Int) := of_decide_eq_true (by first | (with_reducible assumption) | assumption)
                   obtain ⟨ad130, e130, hx130_0⟩ := Kd.at_int HR1.out x7_2 p130 q130
                   have hw130_0 := hx130_0
                   cases e130
                   replace hx130_0 := (HB.out.cell (World.block_lt_of_cell? w _ hx130_0)).trans hx130_0
                   replace p130 := eq_true p130
                   replace q130 := eq_true q130
                   refine start_ (n := 9) (S := fun w' => w'.cell? (ad129.add (x6_1).toNat) = some (.int .i64 (rd l0 x6_1)) ∧ w'.cell? (ad130.add (x7_2).toNat) = some (.int .i64 (rd l1 x7_2))) (ds := []) #[N,N,N,N,N,N,N,N,N] (by kernel_rfl) rfl rfl ⟨((HB.out.cell (World.block_lt_of_cell? w _ hw129_0)).trans hw129_0), ((HB.out.cell (World.block_lt_of_cell? w _ hw130_0)).trans hw130_0)⟩ (fun hHeld => ?_); refine with_tabW grid_Behind.tab8 grid_Behind.bits8 (fun HT_ HW_ => ?_)
                   generalize wr.drew = w37 at HO_5 HB hx129_0 hx130_0 hHeld ⊢
                   refine pure_ (i := 0) (N := some 27) (v := ?_) (a' := ?_) #[Y,N,N,N,N,N,N,N,N] rfl rfl (any_of HT_.out (by kernel_rfl)) (fun _ _ _ h => h) (Or.inl ⟨by rfl, ?_⟩) ?_ ?_; rotate_left
                   ·intro w'; go_simp; with_reducible rfl
                   rotate_left
                   ·simp only [Act.put, sA,sB,sC, i64_w, i32_w]; rfl
                   refine pure_ (i := 1) (N := some 28) (v := ?_) (a' := ?_) #[Y,Y,N,N,N,N,N,N,N] rfl rfl (any_of HT_.out (by kernel_rfl)) (fun _ _ _ h => h) (Or.inl ⟨by rfl, ?_⟩) ?_ ?_; rotate_left
                   ·intro w'; go_simp; with_reducible rfl
                   rotate_left
                   ·simp only [Act.put, sA,sB,sC, i64_w, i32_w]; rfl
                   refine pure_ (i := 2) (N := some 29) (v := ?_) (a' := ?_) #[Y,Y,Y,N,N,N,N,N,N] rfl rfl (any_of HT_.out (by kernel_rfl)) (fun _ _ _ h => h) (Or.inl ⟨by rfl, ?_⟩) ?_ ?_; rotate_left
                   ·intro w'; go_simp; with_reducible rfl
                   rotate_left
                   ·simp only [Act.put, sA,sB,sC, i64_w, i32_w]; rfl
                   refine pure_ (i := 4) (N := some 31) (v := ?_) (a' := ?_) #[Y,Y,Y,N,Y,N,N,N,N] rfl rfl (any_of HT_.out (by kernel_rfl)) (fun _ _ _ h => h) (Or.inl ⟨by rfl, ?_⟩) ?_ ?_; rotate_left
                   ·intro w'; go_simp; with_reducible rfl
                   rotate_left
                   ·simp only [Act.put, sA,sB,sC, i64_w, i32_w]; rfl
                   refine pure_ (i := 5) (N := some 32) (v := ?_) (a' := ?_) #[Y,Y,Y,N,Y,Y,N,N,N] rfl rfl (any_of HT_.out (by kernel_rfl)) (fun _ _ _ h => h) (Or.inl ⟨by rfl, ?_⟩) ?_ ?_; rotate_left
                   ·intro w'; go_simp; with_reducible rfl
                   rotate_left
                   ·simp only [Act.put, sA,sB,sC, i64_w, i32_w]; rfl
                   refine pure_ (i := 6) (N := some 33) (v := ?_) (a' := ?_) #[Y,Y,Y,N,Y,Y,Y,N,N] rfl rfl (any_of HT_.out (by kernel_rfl)) (fun _ _ _ h => h) (Or.inl ⟨by rfl, ?_⟩) ?_ ?_; rotate_left
                   ·intro w'; go_simp; with_reducible rfl
                   rotate_left
                   ·simp only [Act.put, sA,sB,sC, i64_w, i32_w]; rfl
                   refine take_ (i := 3) (N := some 30) (v := ?_) (a' := ?_) #[Y,Y,Y,Y,Y,Y,Y,N,N] rfl rfl (take_ofW HT_.out HW_.out (by kernel_rfl)) (fun _ _ _ h => h) (Or.inl ⟨by rfl, ?_⟩) hHeld ?_ ?_; rotate_left
                   ·rintro w' ⟨s0, s1⟩; go_simp; with_reducible rfl
                   rotate_left
                   ·simp only [Act.put, sA,sB,sC, i64_w, i32_w]; rfl
                   refine take_ (i := 7) (N := some 34) (v := ?_) (a' := ?_) #[Y,Y,Y,Y,Y,Y,Y,Y,N] rfl rfl (take_ofW HT_.out HW_.out (by kernel_rfl)) (fun _ _ _ h => h) (Or.inl ⟨by rfl, ?_⟩) hHeld ?_ ?_; rotate_left
                   ·rintro w' ⟨s0, s1⟩; go_simp; with_reducible rfl
                   rotate_left
                   ·simp only [Act.put, sA,sB,sC, i64_w, i32_w]; rfl
                   refine pure_ (i := 8) (N := some 35) (v := ?_) (a' := ?_) #[Y,Y,Y,Y,Y,Y,Y,Y,Y] rfl rfl (any_of HT_.out (by kernel_rfl)) (fun _ _ _ h => h) (Or.inl ⟨by rfl, ?_⟩) ?_ ?_; rotate_left
                   ·intro w'; go_simp; with_reducible rfl
                   rotate_left
                   ·simp only [Act.put, sA,sB,sC, i64_w, i32_w]; rfl
                   refine done_ (done_of HT_.out (by kernel_rfl)) ?_
                   try go_wp2
                   have n0_ := Aside0.mk (Kd.S_drew HO_5.out)
                   have n1_ := Aside0.mk (below_drew1 HB.out)
                   clear HO_5
                   clear HB
                   have HO_5 := n0_
                   have HB := n1_
                   clear n0_ n1_
                   obtain ⟨Ao39, co39, eo39⟩ := Kd.S_slice HO_5.out
                   (first | subst eo39 | (injection eo39 with f1_ f2_ f3_; have f4_ := f1_.symm; have f5_ := f3_.symm; clear f1_ f2_ f3_; subst f4_; subst f5_))
                   have p137 : 0 ≤ (x6_1 : Int) := of_decide_eq_true (by first | (with_reducible assumption) | assumption)
                   have q137 : x6_1 < (x5_2.length : Int) := of_decide_eq_true (by first | (with_reducible assumption) | assumption)
                   try (obtain ⟨Ap137, cp137, ep137⟩ := Kd.S_slice HO_5.out; subst ep137)
                   obtain ⟨ad137, A137_0, c137_0, e137, hx137_0, hl137_0, hi137_0⟩ := at_L2 (Kd.S_reads' HO_5.out).2.2 x6_1 p137 q137
                   cases e137
                   obtain ⟨ce137, hce137, hMe137, hcc137⟩ := Kd.S_get HO_5.out [] x6_1 p137 (by first | exact q137 | exact of_decide_eq_true (by first | (with_reducible assumption) | assumption) | (have e_ := (Kd.S_reads' HO_5.out).1; omega))
                   obtain ⟨ve137_0, rfl, ge137_0⟩ := hMe137
                   have hv137_0 := hcc137 0 _ rfl
                   rw [Nat.add_zero, show ((Kd.slice 3 (Kd.int .i64))).sz = 1 from rfl, Nat.mul_one] at hv137_0
                   replace hv137_0 := Option.some.inj (hv137_0.symm.trans hx137_0)
                   rw [hv137_0] at ge137_0
                   have HL137_0 := Aside0.mk (show Kd.R (Kd.int .i64) 3 _ _ _ _ (rd_L2 x5_2 x6_1) from ge137_0)
                   clear hv137_0 ge137_0
                   have HX137_0 := Aside0.mk hx137_0
                   clear hcc137 hce137
                   have HR137_0 := Aside0.mk hi137_0
                   have HC137_0 := Aside0.mk hl137_0
                   clear hi137_0 hl137_0
                   replace p137 := eq_true p137
                   replace q137 := eq_true q137
                   have p138 : 0 ≤ ((ji27) : Int) := of_decide_eq_true (by first | (with_reducible assumption) | assumption)
                   have q138 : (ji27) < (x5_2.length : Int) := of_decide_eq_true (by first | (with_reducible assumption) | assumption)
                   try (obtain ⟨Ap138, cp138, ep138⟩ := Kd.S_slice HO_5.out; subst ep138)
                   obtain ⟨ad138, A138_0, c138_0, e138, hx138_0, hl138_0, hi138_0⟩ := at_L2 (Kd.S_reads' HO_5.out).2.2 (ji27) p138 q138
                   obtain rfl : ad137 = ad138 := (by injection e138)
                   obtain ⟨ce138, hce138, hMe138, hcc138⟩ := Kd.S_get HO_5.out [] (ji27) p138 (by first | exact q138 | exact of_decide_eq_true (by first | (with_reducible assumption) | assumption) | (have e_ := (Kd.S_reads' HO_5.out).1; omega))
                   obtain ⟨ve138_0, rfl, ge138_0⟩ := hMe138
                   have hv138_0 := hcc138 0 _ rfl
                   rw [Nat.add_zero, show ((Kd.slice 3 (Kd.int .i64))).sz = 1 from rfl, Nat.mul_one] at hv138_0
                   replace hv138_0 := Option.some.inj (hv138_0.symm.trans hx138_0)
                   rw [hv138_0] at ge138_0
                   have HL138_0 := Aside0.mk (show Kd.R (Kd.int .i64) 3 _ _ _ _ (rd_L2 x5_2 (ji27)) from ge138_0)
                   clear hv138_0 ge138_0
                   have HX138_0 := Aside0.mk hx138_0
                   clear hcc138 hce138
                   have HR138_0 := Aside0.mk hi138_0
                   have HC138_0 := Aside0.mk hl138_0
                   clear hi138_0 hl138_0
                   replace p138 := eq_true p138
                   replace q138 := eq_true q138
                   have p139 : 0 ≤ (x7_2 : Int) := of_decide_eq_true (by first | (with_reducible assumption) | assumption)
                   have q139 : x7_2 < ((rd_L2 x5_2 (ji27)).length : Int) := of_decide_eq_true (by first | (with_reducible assumption) | assumption)
                   obtain ⟨ad139, e139, hx139_0⟩ := Kd.at_int (by repeat (first | (with_reducible exact HR138_0.out) | (with_reducible refine Kd.C_alloc ?_ _) | (with_reducible refine Kd.C_drewN ?_ _) | (with_reducible refine Kd.C_drew ?_) | exact HR138_0.out)) x7_2 p139 q139
                   cases e139
                   replace p139 := eq_true p139
                   replace q139 := eq_true q139
                   have p140 : 0 ≤ (x6_1 : Int) := of_decide_eq_true (by first | (with_reducible assumption) | assumption)
                   have q140 : x6_1 < (x5_2.length : Int) := of_decide_eq_true (by first | (with_reducible assumption) | assumption)
                   try (obtain ⟨Ap140, cp140, ep140⟩ := Kd.S_slice HO_5.out; subst ep140)
                   obtain ⟨ad140, A140_0, c140_0, e140, hx140_0, hl140_0, hi140_0⟩ := at_L2 (Kd.S_reads' HO_5.out).2.2 x6_1 p140 q140
                   obtain rfl : ad137 = ad140 := (by injection e140)
                   obtain ⟨ce140, hce140, hMe140, hcc140⟩ := Kd.S_get HO_5.out [] x6_1 p140 (by first | exact q140 | exact of_decide_eq_true (by first | (with_reducible assumption) | assumption) | (have e_ := (Kd.S_reads' HO_5.out).1; omega))
                   obtain ⟨ve140_0, rfl, ge140_0⟩ := hMe140
                   have hv140_0 := hcc140 0 _ rfl
                   rw [Nat.add_zero, show ((Kd.slice 3 (Kd.int .i64))).sz = 1 from rfl, Nat.mul_one] at hv140_0
                   replace hv140_0 := Option.some.inj (hv140_0.symm.trans hx140_0)
                   rw [hv140_0] at ge140_0
                   have HL140_0 := Aside0.mk (show Kd.R (Kd.int .i64) 3 _ _ _ _ (rd_L2 x5_2 x6_1) from ge140_0)
                   clear hv140_0 ge140_0
                   have HX140_0 := Aside0.mk hx140_0
                   clear hcc140 hce140
                   have HR140_0 := Aside0.mk hi140_0
                   have HC140_0 := Aside0.mk hl140_0
                   clear hi140_0 hl140_0
                   replace p140 := eq_true p140
                   replace q140 := eq_true q140
                   have ea_ := Option.some.inj (hx137_0.symm.trans hx140_0)
                   injection ea_ with ea_ en_ ec_
                   subst ea_
                   subst ec_
                   clear en_
                   have p141 : 0 ≤ ((ji31) : Int) := of_decide_eq_true (by first | (with_reducible assumption) | assumption)
                   have q141 : (ji31) < ((rd_L2 x5_2 x6_1).length : Int) := of_decide_eq_true (by first | (with_reducible assumption) | assumption)
                   obtain ⟨ad141, e141, hx141_0⟩ := Kd.at_int (by repeat (first | (with_reducible exact HR140_0.out) | (with_reducible refine Kd.C_alloc ?_ _) | (with_reducible refine Kd.C_drewN ?_ _) | (with_reducible refine Kd.C_drew ?_) | exact HR140_0.out)) (ji31) p141 q141
                   cases e141
                   replace p141 := eq_true p141
                   replace q141 := eq_true q141
                   have p36 : 0 ≤ (x7_2 : Int) := of_decide_eq_true (by first | (with_reducible assumption) | assumption)
                   have q36 : (x7_2 : Int) < (((rd_L2 x5_2 x6_1).length : Int) : Int) := of_decide_eq_true (by first | (with_reducible assumption) | assumption)
                   obtain ⟨go36, co36, eo36, gb36, gl36, cl36, HG36⟩ := Kd.R_form HL137_0.out (by omega)
                   (first | cases eo36 | (injection eo36 with ea_ en_ ec_; (first | subst ea_ | (injection ea_ with ea_; subst ea_)); subst ec_; clear en_))
                   have GB36 := Aside0.mk gb36
                   have GG36 := Aside0.mk HG36
                   clear gb36 gl36 HG36
                   (first | simp only [add_plain] at hx141_0 | skip)
                   obtain ⟨hx36_0, hf36_0⟩ := Kd.R_celln 0 HL137_0.out (x7_2 : Int) p36 q36
                   replace p36 := eq_true p36
                   replace q36 := eq_true q36
                   have hq40 : (x6_1 : Int) < (x5_2.length : Int) := (by have h_ : (x6_1 : Int) < ((x5_2.length : Int) : Int) := of_decide_eq_true (by first | (with_reducible assumption) | assumption); first | exact h_ | (have e_ := (Kd.S_reads' HO_5.out).1; omega) | simpa only [List.length_set, List.length_set] using h_)
                   obtain ⟨oki40, ce40, hcl40, hM40, hcc40, hok40, hbk40⟩ := Kd.S_borrow HO_5.out [] (x6_1 : Int) (of_decide_eq_true (by first | (with_reducible assumption) | assumption)) hq40
                   obtain ⟨ve40_0, rfl, ge40_0⟩ := hM40
                   have hv40 := hcc40 0 _ rfl
                   rw [Nat.add_zero, show ((Kd.slice 3 (Kd.int .i64))).sz = 1 from rfl, Nat.mul_one] at hv40
                   replace hv40 := Option.some.inj (hv40.symm.trans HX137_0.out)
                   subst hv40
                   clear hcc40 hcl40
                   replace ge40_0 := (show Kd.R (Kd.int .i64) 3 _ _ _ _ (rd_L2 x5_2 x6_1) from ge40_0)
                   have HP40 := Kd.R_putg ge40_0 (x7_2 : Int) ji34
                   rw [← Ny142.out] at HP40
                   have HS40 := hbk40 HP40.2 (fun k_ e_ => by injection e_ with e_; subst e_; exact ge40_0.1 _ rfl) (x' := y142) (Kd.M_row HP40.1)
                   rw [← Ny144.out] at HS40
                   have HQ40 := Aside0.mk HS40
                   clear HP40 HS40 hbk40 hok40
                   refine start_ (n := 24) (S := fun w' => w'.cell? (ad137.add (x6_1).toNat) = some (.slice (some ⟨go36, 0, none⟩) (rd_L2 x5_2 x6_1).length c137_0) ∧ w'.cell? (ad137.add ((ji27)).toNat) = some (.slice (some ad139) (rd_L2 x5_2 (ji27)).length c138_0) ∧ w'.cell? (ad139.add (x7_2).toNat) = some (.int .i64 (rd (rd_L2 x5_2 (ji27)) x7_2)) ∧ w'.cell? (ad137.add (x6_1).toNat) = some (.slice (some ⟨go36, 0, none⟩) (rd_L2 x5_2 x6_1).length c137_0) ∧ w'.cell? ⟨go36, ((ji31)).toNat, none⟩ = some (.int .i64 (rd (rd_L2 x5_2 x6_1) (ji31)))) (ds := [23]) #[N,N,N,N,N,N,N,N,N,N,N,N,N,N,N,N,N,N,N,N,N,N,N,N] (by kernel_rfl) rfl rfl ⟨hx137_0, hx138_0, hx139_0, hx140_0, hx141_0⟩ (fun hHeld => ?_); refine with_tabW grid_Behind.tab10 grid_Behind.bits10 (fun HT_ HW_ => ?_)
                   generalize w37.drew = w38 at HO_5 HB GG36 HL137_0 HL138_0 HL140_0 HQ40 HR137_0 HR138_0 HR140_0 HX137_0 HX138_0 HX140_0 hf36_0 hx137_0 hx138_0 hx139_0 hx140_0 hx141_0 hx36_0 hHeld ⊢
                   refine pure_ (i := 0) (N := some 52) (v := ?_) (a' := ?_) #[Y,N,N,N,N,N,N,N,N,N,N,N,N,N,N,N,N,N,N,N,N,N,N,N] rfl rfl (any_of HT_.out (by kernel_rfl)) (fun _ _ _ h => h) (Or.inl ⟨by rfl, ?_⟩) ?_ ?_; rotate_left
                   ·intro w'; go_simp; with_reducible rfl
                   rotate_left
                   ·simp only [Act.put, sA,sB,sC, i64_w, i32_w]; rfl
                   refine pure_ (i := 1) (N := some 53) (v := ?_) (a' := ?_) #[Y,Y,N,N,N,N,N,N,N,N,N,N,N,N,N,N,N,N,N,N,N,N,N,N] rfl rfl (any_of HT_.out (by kernel_rfl)) (fun _ _ _ h => h) (Or.inl ⟨by rfl, ?_⟩) ?_ ?_; rotate_left
                   ·intro w'; go_simp; with_reducible rfl
                   rotate_left
                   ·simp only [Act.put, sA,sB,sC, i64_w, i32_w]; rfl
                   refine pure_ (i := 2) (N := some 54) (v := ?_) (a' := ?_) #[Y,Y,Y,N,N,N,N,N,N,N,N,N,N,N,N,N,N,N,N,N,N,N,N,N] rfl rfl (any_of HT_.out (by kernel_rfl)) (fun _ _ _ h => h) (Or.inl ⟨by rfl, ?_⟩) ?_ ?_; rotate_left
                   ·intro w'; go_simp; with_reducible rfl
                   rotate_left
                   ·simp only [Act.put, sA,sB,sC, i64_w, i32_w]; rfl
                   refine pure_ (i := 4) (N := some 56) (v := ?_) (a' := ?_) #[Y,Y,Y,N,Y,N,N,N,N,N,N,N,N,N,N,N,N,N,N,N,N,N,N,N] rfl rfl (any_of HT_.out (by kernel_rfl)) (fun _ _ _ h => h) (Or.inl ⟨by rfl, ?_⟩) ?_ ?_; rotate_left
                   ·intro w'; go_simp; with_reducible rfl
                   rotate_left
                   ·simp only [Act.put, sA,sB,sC, i64_w, i32_w]; rfl
                   refine pure_ (i := 5) (N := some 57) (v := ?_) (a' := ?_) #[Y,Y,Y,N,Y,Y,N,N,N,N,N,N,N,N,N,N,N,N,N,N,N,N,N,N] rfl rfl (any_of HT_.out (by kernel_rfl)) (fun _ _ _ h => h) (Or.inl ⟨by rfl, ?_⟩) ?_ ?_; rotate_left
                   ·intro w'; go_simp; with_reducible rfl
                   rotate_left
                   ·simp only [Act.put, sA,sB,sC, i64_w, i32_w]; rfl
                   refine pure_ (i := 6) (N := some 58) (v := ?_) (a' := ?_) #[Y,Y,Y,N,Y,Y,Y,N,N,N,N,N,N,N,N,N,N,N,N,N,N,N,N,N] rfl rfl (any_of HT_.out (by kernel_rfl)) (fun _ _ _ h => h) (Or.inl ⟨by rfl, ?_⟩) ?_ ?_; rotate_left
                   ·intro w'; go_simp; with_reducible rfl
                   rotate_left
                   ·simp only [Act.put, sA,sB,sC, i64_w, i32_w]; rfl
                   refine pure_ (i := 7) (N := some 59) (v := ?_) (a' := ?_) #[Y,Y,Y,N,Y,Y,Y,Y,N,N,N,N,N,N,N,N,N,N,N,N,N,N,N,N] rfl rfl (any_of HT_.out (by kernel_rfl)) (fun _ _ _ h => h) (Or.inl ⟨by rfl, ?_⟩) ?_ ?_; rotate_left
                   ·intro w'; go_simp; with_reducible rfl
                   rotate_left
                   ·simp only [Act.put, sA,sB,sC, i64_w, i32_w]; rfl
                   refine pure_ (i := 8) (N := some 60) (v := ?_) (a' := ?_) #[Y,Y,Y,N,Y,Y,Y,Y,Y,N,N,N,N,N,N,N,N,N,N,N,N,N,N,N] rfl rfl (any_of HT_.out (by kernel_rfl)) (fun _ _ _ h => h) (Or.inl ⟨by rfl, ?_⟩) ?_ ?_; rotate_left
                   ·intro w'; go_simp; with_reducible rfl
                   rotate_left
                   ·simp only [Act.put, sA,sB,sC, i64_w, i32_w]; rfl
                   refine pure_ (i := 10) (N := some 62) (v := ?_) (a' := ?_) #[Y,Y,Y,N,Y,Y,Y,Y,Y,N,Y,N,N,N,N,N,N,N,N,N,N,N,N,N] rfl rfl (any_of HT_.out (by kernel_rfl)) (fun _ _ _ h => h) (Or.inl ⟨by rfl, ?_⟩) ?_ ?_; rotate_left
                   ·intro w'; go_simp; with_reducible rfl
                   rotate_left
                   ·simp only [Act.put, sA,sB,sC, i64_w, i32_w]; rfl
                   refine pure_ (i := 13) (N := some 65) (v := ?_) (a' := ?_) #[Y,Y,Y,N,Y,Y,Y,Y,Y,N,Y,N,N,Y,N,N,N,N,N,N,N,N,N,N] rfl rfl (any_of HT_.out (by kernel_rfl)) (fun _ _ _ h => h) (Or.inl ⟨by rfl, ?_⟩) ?_ ?_; rotate_left
                   ·intro w'; go_simp; with_reducible rfl
                   rotate_left
                   ·simp only [Act.put, sA,sB,sC, i64_w, i32_w]; rfl
                   refine pure_ (i := 14) (N := some 66) (v := ?_) (a' := ?_) #[Y,Y,Y,N,Y,Y,Y,Y,Y,N,Y,N,N,Y,Y,N,N,N,N,N,N,N,N,N] rfl rfl (any_of HT_.out (by kernel_rfl)) (fun _ _ _ h => h) (Or.inl ⟨by rfl, ?_⟩) ?_ ?_; rotate_left
                   ·intro w'; go_simp; with_reducible rfl
                   rotate_left
                   ·simp only [Act.put, sA,sB,sC, i64_w, i32_w]; rfl
                   refine pure_ (i := 15) (N := some 67) (v := ?_) (a' := ?_) #[Y,Y,Y,N,Y,Y,Y,Y,Y,N,Y,N,N,Y,Y,Y,N,N,N,N,N,N,N,N] rfl rfl (any_of HT_.out (by kernel_rfl)) (fun _ _ _ h => h) (Or.inl ⟨by rfl, ?_⟩) ?_ ?_; rotate_left
                   ·intro w'; go_simp; with_reducible rfl
                   rotate_left
                   ·simp only [Act.put, sA,sB,sC, i64_w, i32_w]; rfl
                   refine pure_ (i := 17) (N := some 69) (v := ?_) (a' := ?_) #[Y,Y,Y,N,Y,Y,Y,Y,Y,N,Y,N,N,Y,Y,Y,N,Y,N,N,N,N,N,N] rfl rfl (any_of HT_.out (by kernel_rfl)) (fun _ _ _ h => h) (Or.inl ⟨by rfl, ?_⟩) ?_ ?_; rotate_left
                   ·intro w'; go_simp; with_reducible rfl
                   rotate_left
                   ·simp only [Act.put, sA,sB,sC, i64_w, i32_w]; rfl
                   refine pure_ (i := 18) (N := some 70) (v := ?_) (a' := ?_) #[Y,Y,Y,N,Y,Y,Y,Y,Y,N,Y,N,N,Y,Y,Y,N,Y,Y,N,N,N,N,N] rfl rfl (any_of HT_.out (by kernel_rfl)) (fun _ _ _ h => h) (Or.inl ⟨by rfl, ?_⟩) ?_ ?_; rotate_left
                   ·intro w'; go_simp; with_reducible rfl
                   rotate_left
                   ·simp only [Act.put, sA,sB,sC, i64_w, i32_w]; rfl
                   refine take_ (i := 3) (N := some 55) (v := ?_) (a' := ?_) #[Y,Y,Y,Y,Y,Y,Y,Y,Y,N,Y,N,N,Y,Y,Y,N,Y,Y,N,N,N,N,N] rfl rfl (take_ofW HT_.out HW_.out (by kernel_rfl)) (fun _ _ _ h => h) (Or.inl ⟨by rfl, ?_⟩) hHeld ?_ ?_; rotate_left
                   ·rintro w' ⟨s0, s1, s2, s3, s4⟩; go_simp; with_reducible rfl
                   rotate_left
                   ·simp only [Act.put, sA,sB,sC, i64_w, i32_w]; rfl
                   refine take_ (i := 9) (N := some 61) (v := ?_) (a' := ?_) #[Y,Y,Y,Y,Y,Y,Y,Y,Y,Y,Y,N,N,Y,Y,Y,N,Y,Y,N,N,N,N,N] rfl rfl (take_ofW HT_.out HW_.out (by kernel_rfl)) (fun _ _ _ h => h) (Or.inl ⟨by rfl, ?_⟩) hHeld ?_ ?_; rotate_left
                   ·rintro w' ⟨s0, s1, s2, s3, s4⟩; go_simp; with_reducible rfl
                   rotate_left
                   ·simp only [Act.put, sA,sB,sC, i64_w, i32_w]; rfl
                   refine pure_ (i := 11) (N := some 63) (v := ?_) (a' := ?_) #[Y,Y,Y,Y,Y,Y,Y,Y,Y,Y,Y,Y,N,Y,Y,Y,N,Y,Y,N,N,N,N,N] rfl rfl (any_of HT_.out (by kernel_rfl)) (fun _ _ _ h => h) (Or.inl ⟨by rfl, ?_⟩) ?_ ?_; rotate_left
                   ·intro w'; go_simp; with_reducible rfl
                   rotate_left
                   ·simp only [Act.put, sA,sB,sC, i64_w, i32_w]; rfl
                   refine take_ (i := 12) (N := some 64) (v := ?_) (a' := ?_) #[Y,Y,Y,Y,Y,Y,Y,Y,Y,Y,Y,Y,Y,Y,Y,Y,N,Y,Y,N,N,N,N,N] rfl rfl (take_ofW HT_.out HW_.out (by kernel_rfl)) (fun _ _ _ h => h) (Or.inl ⟨by rfl, ?_⟩) hHeld ?_ ?_; rotate_left
                   ·rintro w' ⟨s0, s1, s2, s3, s4⟩; go_simp; with_reducible rfl
                   rotate_left
                   ·simp only [Act.put, sA,sB,sC, i64_w, i32_w]; rfl
                   refine take_ (i := 16) (N := some 68) (v := ?_) (a' := ?_) #[Y,Y,Y,Y,Y,Y,Y,Y,Y,Y,Y,Y,Y,Y,Y,Y,Y,Y,Y,N,N,N,N,N] rfl rfl (take_ofW HT_.out HW_.out (by kernel_rfl)) (fun _ _ _ h => h) (Or.inl ⟨by rfl, ?_⟩) hHeld ?_ ?_; rotate_left
                   ·rintro w' ⟨s0, s1, s2, s3, s4⟩; go_simp; with_reducible rfl
                   rotate_left
                   ·simp only [Act.put, sA,sB,sC, i64_w, i32_w]; rfl
                   refine pure_ (i := 19) (N := some 71) (v := ?_) (a' := ?_) #[Y,Y,Y,Y,Y,Y,Y,Y,Y,Y,Y,Y,Y,Y,Y,Y,Y,Y,Y,Y,N,N,N,N] rfl rfl (any_of HT_.out (by kernel_rfl)) (fun _ _ _ h => h) (Or.inl ⟨by rfl, ?_⟩) ?_ ?_; rotate_left
                   ·intro w'; go_simp; with_reducible rfl
                   rotate_left
                   ·simp only [Act.put, sA,sB,sC, i64_w, i32_w]; rfl
                   refine take_ (i := 20) (N := some 72) (v := ?_) (a' := ?_) #[Y,Y,Y,Y,Y,Y,Y,Y,Y,Y,Y,Y,Y,Y,Y,Y,Y,Y,Y,Y,Y,N,N,N] rfl rfl (take_ofW HT_.out HW_.out (by kernel_rfl)) (fun _ _ _ h => h) (Or.inl ⟨by rfl, ?_⟩) hHeld ?_ ?_; rotate_left
                   ·rintro w' ⟨s0, s1, s2, s3, s4⟩; go_simp; with_reducible rfl
                   rotate_left
                   ·simp only [Act.put, sA,sB,sC, i64_w, i32_w]; rfl
                   refine pure_ (i := 21) (N := some 73) (v := ?_) (a' := ?_) #[Y,Y,Y,Y,Y,Y,Y,Y,Y,Y,Y,Y,Y,Y,Y,Y,Y,Y,Y,Y,Y,Y,N,N] rfl rfl (any_of HT_.out (by kernel_rfl)) (fun _ _ _ h => h) (Or.inl ⟨by rfl, ?_⟩) ?_ ?_; rotate_left
                   ·intro w'; go_simp; with_reducible rfl
                   rotate_left
                   ·simp only [Act.put, sA,sB,sC, i64_w, i32_w]; rfl
                   refine pure_ (i := 22) (N := some 74) (v := ?_) (a' := ?_) #[Y,Y,Y,Y,Y,Y,Y,Y,Y,Y,Y,Y,Y,Y,Y,Y,Y,Y,Y,Y,Y,Y,Y,N] rfl rfl (any_of HT_.out (by kernel_rfl)) (fun _ _ _ h => h) (Or.inl ⟨by rfl, ?_⟩) ?_ ?_; rotate_left
                   ·intro w'; go_simp; with_reducible rfl
                   rotate_left
                   ·simp only [Act.put, sA,sB,sC, i64_w, i32_w]; rfl
                   refine last_ (i := 23) (N := none) #[Y,Y,Y,Y,Y,Y,Y,Y,Y,Y,Y,Y,Y,Y,Y,Y,Y,Y,Y,Y,Y,Y,Y,Y] rfl rfl (one_of HT_.out (by kernel_rfl)) (by decide) (fun K hK => ?_)
                   refine skip_ (w1 := ?_) (by rfl) rfl ?_ ?_
                   rotate_left
                   ·go_simp; rfl
                   refine hK.out _ _ ?_
                   clear hK K
                   refine done_ (done_of HT_.out (by kernel_rfl)) ?_
                   try go_wp2
                   go_roundg k2
                   case measure => have := HK1.out; have := HK2.out; omega
                   case rel => exact ⟨(y144), (wrap64 (x7_2 - 1)), (by first | rfl | (simp; done) | (simp [*]; done)), H', ⟨by have := HK1.out; have := HK2.out; omega⟩, ⟨by (with_reducible repeat (first | apply Kd.S_alloc | apply Kd.S_drewN | apply Kd.S_drew)); exact HQ40.out⟩, ⟨by repeat (first | (with_reducible first | exact HB.out | apply below_alloc | apply pw_below_drewN | apply below_drew1 | refine below_set ?_ GB36.out) | exact HB.out)⟩⟩
                  ·rw [if_neg c35] at H
                   exact absurd H (by simp)
                 ·rw [if_neg c33] at H
                  exact absurd H (by simp)
                ·rw [if_neg c32] at H
                 exact absurd H (by simp)
               ·rw [if_neg c30] at H
                exact absurd H (by simp)
              ·rw [if_neg c29] at H
               exact absurd H (by simp)
             ·rw [if_neg c28] at H
              exact absurd H (by simp)
            ·rw [if_neg c26] at H
             exact absurd H (by simp)
          ·rw [if_neg c10] at H
           exact absurd H (by simp)
         ·rw [if_neg c9] at H
          exact absurd H (by simp)
        ·rw [if_neg c8] at H
         exact absurd H (by simp)
       ·rw [if_neg c7] at H
        exact absurd H (by simp)
      ·rw [if_neg c6] at H
       have c6b0 : decide (0 ≤ x7_2) = false := decide_eq_false c6
       clear c6
       have H' := Aside0.mk H
       clear H
       go_wp2
       go_roundg k2
       case measure => have := HK1.out; have := HK2.out; omega
       case rel => exact ⟨(x5_2), (wrap64 (x6_1 - 1)), (by first | rfl | (simp; done) | (simp [*]; done)), H', ⟨by have := HK1.out; have := HK2.out; omega⟩, ⟨by (with_reducible repeat (first | apply Kd.S_alloc | apply Kd.S_drewN | apply Kd.S_drew)); exact HO_5.out⟩, ⟨by repeat (first | (with_reducible first | exact HB.out | apply below_alloc | apply pw_below_drewN | apply below_drew1) | exact HB.out)⟩⟩
   ·rw [if_neg c5] at H
    have c5b0 : decide (0 ≤ x6_1) = false := decide_eq_false c5
    clear c5
    obtain rfl := Option.some.inj H
    go_wp2
    go_ret
    exact ⟨_, by first | rfl | (simp [errW_none, errW_some] <;> rfl) | (simp [*, errW_none, errW_some] <;> rfl), by (with_reducible repeat (first | apply Kd.S_alloc | apply Kd.S_drewN | apply Kd.S_drew)); exact HO_5.out, by repeat (first | (with_reducible first | exact HB.out | apply below_alloc | apply pw_below_drewN | apply below_drew1) | exact HB.out)⟩

end Go.Proofs.Ytdegajidkboknaa.PCanonAny
