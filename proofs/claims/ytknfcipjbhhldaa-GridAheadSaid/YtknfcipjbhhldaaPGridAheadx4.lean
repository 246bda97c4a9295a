/- What the given program's functions come to, each a Lean function and the walk that shows it: no condition beside those that each theorem names. -/
import Derived.Test.YtknfcipjbhhldaaPGridAheadx0
import Derived.Test.YtknfcipjbhhldaaPGridAheadx2
namespace Go.Proofs.Ytknfcipjbhhldaa.PGridAhead
open Go.RowKit Go.Proofs.YtknfcipjbhhldaaW.PrintWords Go.Proofs.YtknfcipjbhhldaaW.PrintLast Go.Proofs.YtknfcipjbhhldaaW.PrintMore
attribute [local go_sem] max2_int min2_int max_two min_two max_three min_three max_four min_four   -- for this text's walks alone
set_option linter.unusedVariables false
set_option linter.unusedSimpArgs false

/-! ### grid_Run: function 14 -/
mutual
def grid_Run.l0 : Nat → List Int → List Int → List (List Int) → List (S42) → Int → Int → Option ((List (S42)) × Int)
 | 0, _, _, _, _, _, _ => none
 | k + 1, x0, x1, x6, x7, x8, x9 => if x8 < (x0.length : Int) then (grid_Run.j1 k x0 x1 x6 x7 x8 x9 (decide (x9 < (x1.length : Int)))) else (grid_Run.j1 k x0 x1 x6 x7 x8 x9 false)
def grid_Run.j1 : Nat → List Int → List Int → List (List Int) → List (S42) → Int → Int → Bool → Option ((List (S42)) × Int)
 | 0, _, _, _, _, _, _, _ => none
 | k + 1, x0, x1, x6, x7, x8, x9, x22 => if x22 = true then (if 0 ≤ x8 then (if x8 < (x0.length : Int) then (if 0 ≤ x9 then (if x9 < (x1.length : Int) then (if (rd x0 x8) = (rd x1 x9) then (if x7.length < 8796093022208 then (grid_Run.l0 k x0 x1 x6 (x7 ++ [(⟨x8, x9⟩ : S42)]) (wrap64 (x8 + 1)) (wrap64 (x9 + 1))) else (none)) else (if 0 ≤ (wrap64 (x8 + 1)) then (if (wrap64 (x8 + 1)) < (x6.length : Int) then (if x9 < ((rd_L1 x6 (wrap64 (x8 + 1))).length : Int) then (if x8 < (x6.length : Int) then (if 0 ≤ (wrap64 (x9 + 1)) then (if (wrap64 (x9 + 1)) < ((rd_L1 x6 x8).length : Int) then (if (rd (rd_L1 x6 (wrap64 (x8 + 1))) x9) ≥ (rd (rd_L1 x6 x8) (wrap64 (x9 + 1))) then (grid_Run.l0 k x0 x1 x6 x7 (wrap64 (x8 + 1)) x9) else (grid_Run.l0 k x0 x1 x6 x7 x8 (wrap64 (x9 + 1)))) else (none)) else (none)) else (none)) else (none)) else (none)) else (none))) else (none)) else (none)) else (none)) else (none)) else (some (x7, wrap64 ((x0.length : Int) * (x1.length : Int))))
end
def grid_Run.f (k : Nat) (l0 : List Int) (l1 : List Int) : Option ((List (S42)) × Int) := (grid_Behind.f k l0 l1).bind fun t146 => (grid_Run.l0 k l0 l1 t146 ([] : List (S42)) 0 0)
theorem grid_Run.mono_l : ∀ k, (∀ y0 y1 y2 y3 y4 y5, LeO (grid_Run.l0 k y0 y1 y2 y3 y4 y5) (grid_Run.l0 (k + 1) y0 y1 y2 y3 y4 y5)) ∧ (∀ y0 y1 y2 y3 y4 y5 y6, LeO (grid_Run.j1 k y0 y1 y2 y3 y4 y5 y6) (grid_Run.j1 (k + 1) y0 y1 y2 y3 y4 y5 y6))
 | 0 => ⟨fun _ _ _ _ _ _ r h => by simp [grid_Run.l0] at h, fun _ _ _ _ _ _ _ r h => by simp [grid_Run.j1] at h⟩
 | k + 1 => by
  obtain ⟨ih0, ih1⟩ := grid_Run.mono_l k
  refine ⟨?_, ?_⟩
  ·intro y0 y1 y2 y3 y4 y5
   unfold grid_Run.l0
   repeat' first
   | (with_reducible exact ih0 _ _ _ _ _ _)
   | (with_reducible exact ih1 _ _ _ _ _ _ _)
   | (with_reducible exact grid_Behind.mono _ _ _)
   | (with_reducible exact LeO.refl _)
   | (with_reducible exact LeO.none _)
   | (with_reducible refine LeO.ite ?_ ?_)
   | (with_reducible refine LeO.bind ?_ (fun _ => ?_))
   | exact ih0 _ _ _ _ _ _
   | exact ih1 _ _ _ _ _ _ _
   | exact grid_Behind.mono _ _ _
   | exact LeO.none _
   | refine LeO.ite ?_ ?_
   | refine LeO.bind ?_ (fun _ => ?_)
  ·intro y0 y1 y2 y3 y4 y5 y6
   unfold grid_Run.j1
   repeat' first
   | (with_reducible exact ih0 _ _ _ _ _ _)
   | (with_reducible exact ih1 _ _ _ _ _ _ _)
   | (with_reducible exact grid_Behind.mono _ _ _)
   | (with_reducible exact LeO.refl _)
   | (with_reducible exact LeO.none _)
   | (with_reducible refine LeO.ite ?_ ?_)
   | (with_reducible refine LeO.bind ?_ (fun _ => ?_))
   | exact ih0 _ _ _ _ _ _
   | exact ih1 _ _ _ _ _ _ _
   | exact grid_Behind.mono _ _ _
   | exact LeO.none _
   | refine LeO.ite ?_ ?_
   | refine LeO.bind ?_ (fun _ => ?_)
theorem grid_Run.mono : ∀ a0 a1 k, LeO (grid_Run.f k a0 a1) (grid_Run.f (k + 1) a0 a1) := by
 intro a0 a1 k
 obtain ⟨ih0, ih1⟩ := grid_Run.mono_l k
 unfold grid_Run.f
 repeat' first
   | (with_reducible exact ih0 _ _ _ _ _ _)
   | (with_reducible exact ih1 _ _ _ _ _ _ _)
   | (with_reducible exact grid_Behind.mono _ _ _)
   | (with_reducible exact LeO.refl _)
   | (with_reducible exact LeO.none _)
   | (with_reducible refine LeO.ite ?_ ?_)
   | (with_reducible refine LeO.bind ?_ (fun _ => ?_))
   | exact ih0 _ _ _ _ _ _
   | exact ih1 _ _ _ _ _ _ _
   | exact grid_Behind.mono _ _ _
   | exact LeO.none _
   | refine LeO.ite ?_ ?_
   | refine LeO.bind ?_ (fun _ => ?_)
set_option maxHeartbeats 8000000 in
set_option maxRecDepth 100000 in
theorem grid_Run.calls (k : Nat) (A0 : Option Addr) (c0 : Nat) (l0 : List Int) (A1 : Option Addr) (c1 : Nat) (l1 : List Int) (r1 : List (S42)) (r2 : Int) (w : World) (hr0 : Kd.C (Kd.int .i64) w A0 l0.length l0) (hc0 : l0.length ≤ c0) (hr1 : Kd.C (Kd.int .i64) w A1 l1.length l1) (hc1 : l1.length ≤ c1) (h : grid_Run.f k l0 l1 = some (r1, r2)) :
  Calls Try.prog 14 #[.slice A0 l0.length c0, .slice A1 l1.length c1] w fun e w' => ∃ v0_ : Value, e = .returned (.tuple #[v0_, .int .i64 r2]) ∧ Kd.R k42 42 w' w.heap.size (fun _ => True) v0_ r1 ∧ Below w.heap.size w w' := by
 have hu42 := Try.underlying42
 have HR0 := Aside0.mk hr0
 have HC0 := Aside0.mk hc0
 clear hr0 hc0
 have HR1 := Aside0.mk hr1
 have HC1 := Aside0.mk hc1
 clear hr1 hc1
 have HB := Aside0.mk (Below.refl w.heap.size w)
 have H : ((grid_Behind.f k l0 l1).bind fun t146 => (grid_Run.l0 k l0 l1 t146 ([] : List (S42)) 0 0)) = some (r1, r2) := h
 clear h
 replace H := Option.bind_eq_some_iff.mp H
 obtain ⟨t146, A30, H⟩ := H
 replace H : (grid_Run.l0 k l0 l1 t146 ([] : List (S42)) 0 0) = some (r1, r2) := H
 have A3 := Aside0.mk A30
 clear A30
 have H' := Aside0.mk H
 clear H
 go_enter Try.func14, Try.ntmps14
 try dsimp only [List.append]
 go_wp2_with (first | (go_at_call 12; (with_reducible refine (grid_Behind.calls k _ _ l0 _ _ l1 t146 _ ?side1 ?side2 ?side3 ?side4 A3.out).mono ?_); (case side1 => repeat (first | exact HR0.out | (with_reducible refine Kd.C_alloc ?_ _) | (with_reducible refine Kd.C_drewN ?_ _) | (with_reducible refine Kd.C_drew ?_))); (case side2 => exact HC0.out); (case side3 => repeat (first | exact HR1.out | (with_reducible refine Kd.C_alloc ?_ _) | (with_reducible refine Kd.C_drewN ?_ _) | (with_reducible refine Kd.C_drew ?_))); (case side4 => exact HC1.out); rintro e w4 ⟨v147, rfl, ho0, hb⟩; have n0_ := Aside0.mk (Kd.S_lower ho0 (below_size (by repeat (first | (with_reducible first | exact HB.out | apply below_alloc | apply pw_below_drewN | apply below_drew1) | exact HB.out)))); have n1_ := Aside0.mk (below_step (by repeat (first | (with_reducible first | exact HB.out | apply below_alloc | apply pw_below_drewN | apply below_drew1) | exact HB.out)) hb); clear HB; have HO148 := n0_; have HB := n1_; clear n0_ n1_; (try clear hb); (try clear hb2); (try clear hk); (try clear hi); (try clear ho0)))
 repeat (go_quiet (first | (go_at_call 12; (with_reducible refine (grid_Behind.calls k _ _ l0 _ _ l1 t146 _ ?side1 ?side2 ?side3 ?side4 A3.out).mono ?_); (case side1 => repeat (first | exact HR0.out | (with_reducible refine Kd.C_alloc ?_ _) | (with_reducible refine Kd.C_drewN ?_ _) | (with_reducible refine Kd.C_drew ?_))); (case side2 => exact HC0.out); (case side3 => repeat (first | exact HR1.out | (with_reducible refine Kd.C_alloc ?_ _) | (with_reducible refine Kd.C_drewN ?_ _) | (with_reducible refine Kd.C_drew ?_))); (case side4 => exact HC1.out); rintro e w4 ⟨v147, rfl, ho0, hb⟩; have n0_ := Aside0.mk (Kd.S_lower ho0 (below_size (by repeat (first | (with_reducible first | exact HB.out | apply below_alloc | apply pw_below_drewN | apply below_drew1) | exact HB.out)))); have n1_ := Aside0.mk (below_step (by repeat (first | (with_reducible first | exact HB.out | apply below_alloc | apply pw_below_drewN | apply below_drew1) | exact HB.out)) hb); clear HB; have HO148 := n0_; have HB := n1_; clear n0_ n1_; (try clear hb); (try clear hb2); (try clear hk); (try clear hi); (try clear ho0))); try go_wp2_with (first | (go_at_call 12; (with_reducible refine (grid_Behind.calls k _ _ l0 _ _ l1 t146 _ ?side1 ?side2 ?side3 ?side4 A3.out).mono ?_); (case side1 => repeat (first | exact HR0.out | (with_reducible refine Kd.C_alloc ?_ _) | (with_reducible refine Kd.C_drewN ?_ _) | (with_reducible refine Kd.C_drew ?_))); (case side2 => exact HC0.out); (case side3 => repeat (first | exact HR1.out | (with_reducible refine Kd.C_alloc ?_ _) | (with_reducible refine Kd.C_drewN ?_ _) | (with_reducible refine Kd.C_drew ?_))); (case side4 => exact HC1.out); rintro e w4 ⟨v147, rfl, ho0, hb⟩; have n0_ := Aside0.mk (Kd.S_lower ho0 (below_size (by repeat (first | (with_reducible first | exact HB.out | apply below_alloc | apply pw_below_drewN | apply below_drew1) | exact HB.out)))); have n1_ := Aside0.mk (below_step (by repeat (first | (with_reducible first | exact HB.out | apply below_alloc | apply pw_below_drewN | apply below_drew1) | exact HB.out)) hb); clear HB; have HO148 := n0_; have HB := n1_; clear n0_ n1_; (try clear hb); (try clear hb2); (try clear hk); (try clear hi); (try clear ho0))))
 go_loopg [7, 8, 9] k (fun kq v7 v8 v9 w' => ∃ (x7_1 : List (S42)) (x8_1 : Int) (x9_1 : Int), v8 = .int .i64 x8_1 ∧ v9 = .int .i64 x9_1 ∧ Aside0 (grid_Run.l0 kq l0 l1 t146 x7_1 x8_1 x9_1 = some (r1, r2)) ∧ Aside0 (kq ≤ k) ∧ Aside0 (Kd.S (Kd.slice 3 (Kd.int .i64)) 25 w' w.heap.size (fun _ => True) v147 t146) ∧ Aside0 (Kd.R k42 42 w' w.heap.size (fun _ => True) v7 x7_1) ∧ Aside0 (Below w.heap.size w w'))
 case atStart => exact ⟨(([] : List (S42))), (0), (0), (by first | rfl | (simp; done) | (simp [*]; done)), (by first | rfl | (simp; done) | (simp [*]; done)), H', ⟨Nat.le_refl _⟩, ⟨by (with_reducible repeat (first | apply Kd.S_alloc | apply Kd.S_drewN | apply Kd.S_drew)); exact HO148.out⟩, ⟨by first | exact Kd.R_nil _ _ _ _ _ | exact Kd.N_nil _ _ _ _ _ | exact Kd.V_nil _ _ _ _ _ | exact Kd.Q_nil _ _ _ _ _ | exact Kd.S_nil _ _ _ _ _⟩, ⟨by repeat (first | (with_reducible first | exact HB.out | apply below_alloc | apply pw_below_drewN | apply below_drew1) | exact HB.out)⟩⟩
 case round =>
  clear H'
  try clear c1
  try clear p2
  obtain ⟨x7_1, x8_1, x9_1, rfl, rfl, HA, HK1, HO_6, HO_7, HB⟩ := hrel
  cases gk with
  | zero => exact absurd HA.out (by simp [grid_Run.l0])
  | succ k1 =>
   have H := HA.out
   clear HA
   simp only [grid_Run.l0] at H
   have HC5 := Aside0.mk H
   clear H
   go_upto_region 4 with (fail)
   repeat (go_quiet (fail); go_upto_region 4 with (fail))
   go_cut [22] (fun v22 wc => ∃ (kq : Nat) (x22_4 : Bool), v22 = .bool x22_4 ∧ Aside0 (grid_Run.j1 kq l0 l1 t146 x7_1 x8_1 x9_1 x22_4 = some (r1, r2)) ∧ Aside0 (kq ≤ k1) ∧ Aside0 (Kd.S (Kd.slice 3 (Kd.int .i64)) 25 wc w.heap.size (fun _ => True) v147 t146) ∧ Aside0 (Kd.R k42 42 wc w.heap.size (fun _ => True) u7 x7_1) ∧ Aside0 (Below w.heap.size w wc))
   case first =>
    have H := HC5.out
    clear HC5
    by_cases c6 : x8_1 < (l0.length : Int)
    ·rw [if_pos c6] at H
     have c6b0 : decide (x8_1 < (l0.length : Int)) = true := decide_eq_true c6
     clear c6
     (first | rw [c6b0] | (simp only [i64_w, i32_w]; rw [c6b0]) | skip)
     have H' := Aside0.mk H
     clear H
     go_wp2
     repeat (go_quiet (fail); try go_wp2)
     go_meet
     case rel => exact ⟨_, (decide (x9_1 < (l1.length : Int))), (by first | rfl | (simp; done) | (simp [*]; done)), H', ⟨by have := HK1.out; first | omega | exact Nat.le_refl _⟩, ⟨by (with_reducible repeat (first | apply Kd.S_alloc | apply Kd.S_drewN | apply Kd.S_drew)); exact HO_6.out⟩, ⟨by (with_reducible repeat (first | apply Kd.R_alloc | apply Kd.R_drewN | apply Kd.R_drew)); exact HO_7.out⟩, ⟨by repeat (first | (with_reducible first | exact HB.out | apply below_alloc | apply pw_below_drewN | apply below_drew1) | exact HB.out)⟩⟩
    ·rw [if_neg c6] at H
     have c6b0 : decide (x8_1 < (l0.length : Int)) = false := decide_eq_false c6
     clear c6
     (first | rw [c6b0] | (simp only [i64_w, i32_w]; rw [c6b0]) | skip)
     have H' := Aside0.mk H
     clear H
     go_wp2
     repeat (go_quiet (fail); try go_wp2)
     go_meet
     case rel => exact ⟨_, (false), (by first | rfl | (simp; done) | (simp [*]; done)), H', ⟨by have := HK1.out; first | omega | exact Nat.le_refl _⟩, ⟨by (with_reducible repeat (first | apply Kd.S_alloc | apply Kd.S_drewN | apply Kd.S_drew)); exact HO_6.out⟩, ⟨by (with_reducible repeat (first | apply Kd.R_alloc | apply Kd.R_drewN | apply Kd.R_drew)); exact HO_7.out⟩, ⟨by repeat (first | (with_reducible first | exact HB.out | apply below_alloc | apply pw_below_drewN | apply below_drew1) | exact HB.out)⟩⟩
   case rest =>
    clear HC5
    try clear c1
    try clear p2
    try clear c6
    try clear c6b0
    try clear p2
    obtain ⟨kq, x22_4, rfl, HA, HJ4, HO_6, HO_7, HB⟩ := hcut
    cases kq with
    | zero => exact absurd HA.out (by simp [grid_Run.j1])
    | succ kj4 =>
     have H := HA.out
     clear HA
     simp only [grid_Run.j1] at H
     by_cases c7 : x22_4 = true
     ·subst c7
      have H1 : (if 0 ≤ x8_1 then (if x8_1 < (l0.length : Int) then (if 0 ≤ x9_1 then (if x9_1 < (l1.length : Int) then (if (rd l0 x8_1) = (rd l1 x9_1) then (if x7_1.length < 8796093022208 then (grid_Run.l0 kj4 l0 l1 t146 (x7_1 ++ [(⟨x8_1, x9_1⟩ : S42)]) (wrap64 (x8_1 + 1)) (wrap64 (x9_1 + 1))) else (none)) else (if 0 ≤ (wrap64 (x8_1 + 1)) then (if (wrap64 (x8_1 + 1)) < (t146.length : Int) then (if x9_1 < ((rd_L1 t146 (wrap64 (x8_1 + 1))).length : Int) then (if x8_1 < (t146.length : Int) then (if 0 ≤ (wrap64 (x9_1 + 1)) then (if (wrap64 (x9_1 + 1)) < ((rd_L1 t146 x8_1).length : Int) then (if (rd (rd_L1 t146 (wrap64 (x8_1 + 1))) x9_1) ≥ (rd (rd_L1 t146 x8_1) (wrap64 (x9_1 + 1))) then (grid_Run.l0 kj4 l0 l1 t146 x7_1 (wrap64 (x8_1 + 1)) x9_1) else (grid_Run.l0 kj4 l0 l1 t146 x7_1 x8_1 (wrap64 (x9_1 + 1)))) else (none)) else (none)) else (none)) else (none)) else (none)) else (none))) else (none)) else (none)) else (none)) else (none)) = some (r1, r2) := by rw [if_pos rfl] at H; exact H
      clear H
      have H := H1
      clear H1
      by_cases c8 : 0 ≤ x8_1
      ·rw [if_pos c8] at H
       have c8b0 : decide (0 ≤ x8_1) = true := decide_eq_true c8
       clear c8
       by_cases c9 : x8_1 < (l0.length : Int)
       ·rw [if_pos c9] at H
        have c9b0 : decide (x8_1 < (l0.length : Int)) = true := decide_eq_true c9
        clear c9
        by_cases c10 : 0 ≤ x9_1
        ·rw [if_pos c10] at H
         have c10b0 : decide (0 ≤ x9_1) = true := decide_eq_true c10
         clear c10
         by_cases c11 : x9_1 < (l1.length : Int)
         ·rw [if_pos c11] at H
          have c11b0 : decide (x9_1 < (l1.length : Int)) = true := decide_eq_true c11
          clear c11
          by_cases c12 : (rd l0 x8_1) = (rd l1 x9_1)
          ·rw [if_pos c12] at H
           have c12b0 : ((rd l0 x8_1) == (rd l1 x9_1)) = true := beq_iff_eq.mpr c12
           have c12b1 : ((rd l0 x8_1) != (rd l1 x9_1)) = false := bne_eq_false_iff_eq.mpr c12
           clear c12
           by_cases c13 : x7_1.length < 8796093022208
           ·rw [if_pos c13] at H
            have LMc13 := Aside0.mk c13
            clear c13
            obtain ⟨y151, hy151⟩ : ∃ y_ : List (S42), y_ = (x7_1 ++ [(⟨x8_1, x9_1⟩ : S42)]) := ⟨_, rfl⟩
            replace H : (grid_Run.l0 kj4 l0 l1 t146 y151 (wrap64 (x8_1 + 1)) (wrap64 (x9_1 + 1))) = some (r1, r2) := by first | (rw [hy151]; with_reducible exact H) | (have H2_ := (Option.bind_some _ _).symm.trans H; rw [hy151]; with_reducible exact H2_) | (have H2_ := (Option.bind_some _ _).symm.trans H; with_reducible exact H2_) | with_reducible exact H | (rw [hy151]; exact H) | exact H
            have Ny151 := Aside0.mk hy151
            clear hy151
            have H' := Aside0.mk H
            clear H
            have p149 : 0 ≤ (x8_1 : Int) := of_decide_eq_true (by first | (with_reducible assumption) | assumption)
            have q149 : x8_1 < (l0.length : Int) := of_decide_eq_true (by first | (with_reducible assumption) | assumption)
            obtain ⟨ad149, e149, hx149_0⟩ := Kd.at_int HR0.out x8_1 p149 q149
            cases e149
            replace hx149_0 := (HB.out.cell (World.block_lt_of_cell? w _ hx149_0)).trans hx149_0
            replace p149 := eq_true p149
            replace q149 := eq_true q149
            have p150 : 0 ≤ (x9_1 : Int) := of_decide_eq_true (by first | (with_reducible assumption) | assumption)
            have q150 : x9_1 < (l1.length : Int) := of_decide_eq_true (by first | (with_reducible assumption) | assumption)
            obtain ⟨ad150, e150, hx150_0⟩ := Kd.at_int HR1.out x9_1 p150 q150
            cases e150
            replace hx150_0 := (HB.out.cell (World.block_lt_of_cell? w _ hx150_0)).trans hx150_0
            replace p150 := eq_true p150
            replace q150 := eq_true q150
            go_wp2_with (first | ((with_reducible refine gate_builtin (b := .append) (xs := #[.tmp 35, .tmp 39]) rfl ?_); (try (refine gate_guard (by rfl) ?_; dsimp only)); at_builtin; refine Kd.R_append k42 (w0 := w) w.heap.size rfl (.tmp 35) (.tmp 39) 26 42 (.agg #[(.int .i64 0), (.int .i64 0)]) 16 rfl Try.underlying26 info42 rfl (by decide) (by omega) u7 x7_1 (⟨x8_1, x9_1⟩ : S42) [.int .i64 x8_1, .int .i64 x9_1] (fun _ => True) (fun _ => False) rfl rfl ?aP (fun _ hk => hk.elim) ?aF ?aO ?aB ?aS ?aL ?_; (case aP => exact k42_mkM _ _ _ (⟨x8_1, x9_1⟩ : S42)); (case aB => exact (by repeat (first | (with_reducible first | exact HB.out | apply below_alloc | apply pw_below_drewN | apply below_drew1) | exact HB.out))); (case aF => exact (fun _ _ => trivial)); (case aO => exact (by (with_reducible repeat (first | apply Kd.R_alloc | apply Kd.R_drewN | apply Kd.R_drew)); exact HO_7.out)); (case aS => exact (below_size (by repeat (first | (with_reducible first | exact HB.out | apply below_alloc | apply pw_below_drewN | apply below_drew1) | exact HB.out)))); (case aL => have := LMc13.out; omega); intro v152 w14 ho hb hg hat; rw [← Ny151.out] at ho; have n0_ := Aside0.mk (Kd.S_over' (by (with_reducible repeat (first | apply Kd.S_alloc | apply Kd.S_drewN | apply Kd.S_drew)); exact HO_6.out) (Kd.R_typed (by (with_reducible repeat (first | apply Kd.R_alloc | apply Kd.R_drewN | apply Kd.R_drew)); exact HO_7.out)) (by decide) hg); have n1_ := Aside0.mk (hb); have n2_ := Aside0.mk (ho); clear HO_6; clear HB; clear HO_7; have HO_6 := n0_; have HB := n1_; have HO153 := n2_; clear n0_ n1_ n2_; (try clear ho); (try clear hb); (try clear hg); (try clear hat)))
            repeat (go_quiet (first | ((with_reducible refine gate_builtin (b := .append) (xs := #[.tmp 35, .tmp 39]) rfl ?_); (try (refine gate_guard (by rfl) ?_; dsimp only)); at_builtin; refine Kd.R_append k42 (w0 := w) w.heap.size rfl (.tmp 35) (.tmp 39) 26 42 (.agg #[(.int .i64 0), (.int .i64 0)]) 16 rfl Try.underlying26 info42 rfl (by decide) (by omega) u7 x7_1 (⟨x8_1, x9_1⟩ : S42) [.int .i64 x8_1, .int .i64 x9_1] (fun _ => True) (fun _ => False) rfl rfl ?aP (fun _ hk => hk.elim) ?aF ?aO ?aB ?aS ?aL ?_; (case aP => exact k42_mkM _ _ _ (⟨x8_1, x9_1⟩ : S42)); (case aB => exact (by repeat (first | (with_reducible first | exact HB.out | apply below_alloc | apply pw_below_drewN | apply below_drew1) | exact HB.out))); (case aF => exact (fun _ _ => trivial)); (case aO => exact (by (with_reducible repeat (first | apply Kd.R_alloc | apply Kd.R_drewN | apply Kd.R_drew)); exact HO_7.out)); (case aS => exact (below_size (by repeat (first | (with_reducible first | exact HB.out | apply below_alloc | apply pw_below_drewN | apply below_drew1) | exact HB.out)))); (case aL => have := LMc13.out; omega); intro v152 w14 ho hb hg hat; rw [← Ny151.out] at ho; have n0_ := Aside0.mk (Kd.S_over' (by (with_reducible repeat (first | apply Kd.S_alloc | apply Kd.S_drewN | apply Kd.S_drew)); exact HO_6.out) (Kd.R_typed (by (with_reducible repeat (first | apply Kd.R_alloc | apply Kd.R_drewN | apply Kd.R_drew)); exact HO_7.out)) (by decide) hg); have n1_ := Aside0.mk (hb); have n2_ := Aside0.mk (ho); clear HO_6; clear HB; clear HO_7; have HO_6 := n0_; have HB := n1_; have HO153 := n2_; clear n0_ n1_ n2_; (try clear ho); (try clear hb); (try clear hg); (try clear hat))); try go_wp2_with (first | ((with_reducible refine gate_builtin (b := .append) (xs := #[.tmp 35, .tmp 39]) rfl ?_); (try (refine gate_guard (by rfl) ?_; dsimp only)); at_builtin; refine Kd.R_append k42 (w0 := w) w.heap.size rfl (.tmp 35) (.tmp 39) 26 42 (.agg #[(.int .i64 0), (.int .i64 0)]) 16 rfl Try.underlying26 info42 rfl (by decide) (by omega) u7 x7_1 (⟨x8_1, x9_1⟩ : S42) [.int .i64 x8_1, .int .i64 x9_1] (fun _ => True) (fun _ => False) rfl rfl ?aP (fun _ hk => hk.elim) ?aF ?aO ?aB ?aS ?aL ?_; (case aP => exact k42_mkM _ _ _ (⟨x8_1, x9_1⟩ : S42)); (case aB => exact (by repeat (first | (with_reducible first | exact HB.out | apply below_alloc | apply pw_below_drewN | apply below_drew1) | exact HB.out))); (case aF => exact (fun _ _ => trivial)); (case aO => exact (by (with_reducible repeat (first | apply Kd.R_alloc | apply Kd.R_drewN | apply Kd.R_drew)); exact HO_7.out)); (case aS => exact (below_size (by repeat (first | (with_reducible first | exact HB.out | apply below_alloc | apply pw_below_drewN | apply below_drew1) | exact HB.out)))); (case aL => have := LMc13.out; omega); intro v152 w14 ho hb hg hat; rw [← Ny151.out] at ho; have n0_ := Aside0.mk (Kd.S_over' (by (with_reducible repeat (first | apply Kd.S_alloc | apply Kd.S_drewN | apply Kd.S_drew)); exact HO_6.out) (Kd.R_typed (by (with_reducible repeat (first | apply Kd.R_alloc | apply Kd.R_drewN | apply Kd.R_drew)); exact HO_7.out)) (by decide) hg); have n1_ := Aside0.mk (hb); have n2_ := Aside0.mk (ho); clear HO_6; clear HB; clear HO_7; have HO_6 := n0_; have HB := n1_; have HO153 := n2_; clear n0_ n1_ n2_; (try clear ho); (try clear hb); (try clear hg); (try clear hat))))
            go_roundg kj4
            case measure => have := HK1.out; have := HJ4.out; omega
            case rel => exact ⟨(y151), (wrap64 (x8_1 + 1)), (wrap64 (x9_1 + 1)), (by first | rfl | (simp; done) | (simp [*]; done)), (by first | rfl | (simp; done) | (simp [*]; done)), H', ⟨by have := HK1.out; have := HJ4.out; omega⟩, ⟨by (with_reducible repeat (first | apply Kd.S_alloc | apply Kd.S_drewN | apply Kd.S_drew)); exact HO_6.out⟩, ⟨by (with_reducible repeat (first | apply Kd.R_alloc | apply Kd.R_drewN | apply Kd.R_drew)); exact HO153.out⟩, ⟨by repeat (first | (with_reducible first | exact HB.out | apply below_alloc | apply pw_below_drewN | apply below_drew1) | exact HB.out)⟩⟩
           ·rw [if_neg c13] at H
            exact absurd H (by simp)
          ·rw [if_neg c12] at H
           have c12b0 : ((rd l0 x8_1) == (rd l1 x9_1)) = false := beq_eq_false_iff_ne.mpr c12
           have c12b1 : ((rd l0 x8_1) != (rd l1 x9_1)) = true := bne_iff_ne.mpr c12
           obtain ⟨ji15, hji15⟩ : ∃ j_ : Int, (wrap64 (x8_1 + 1)) = j_ := ⟨_, rfl⟩
           replace H : (if 0 ≤ (ji15) then (if (ji15) < (t146.length : Int) then (if x9_1 < ((rd_L1 t146 (ji15)).length : Int) then (if x8_1 < (t146.length : Int) then (if 0 ≤ (wrap64 (x9_1 + 1)) then (if (wrap64 (x9_1 + 1)) < ((rd_L1 t146 x8_1).length : Int) then (if (rd (rd_L1 t146 (ji15)) x9_1) ≥ (rd (rd_L1 t146 x8_1) (wrap64 (x9_1 + 1))) then (grid_Run.l0 kj4 l0 l1 t146 x7_1 ji15 x9_1) else (grid_Run.l0 kj4 l0 l1 t146 x7_1 x8_1 (wrap64 (x9_1 + 1)))) else (none)) else (none)) else (none)) else (none)) else (none)) else (none)) = some (r1, r2) := by first | (rw [hji15] at H; exact H) | (simp only [hji15] at H ⊢; exact H)
           have hji15w : (IntKind.i64.wrap (x8_1 + 1)) = ji15 := (i64_w _).trans hji15
           by_cases c16 : 0 ≤ (ji15)
           ·rw [if_pos c16] at H
            have c16b0 : decide (0 ≤ (ji15)) = true := decide_eq_true c16
            clear c16
            by_cases c17 : (ji15) < (t146.length : Int)
            ·rw [if_pos c17] at H
             have c17b0 : decide ((ji15) < (t146.length : Int)) = true := decide_eq_true c17
             clear c17
             by_cases c18 : x9_1 < ((rd_L1 t146 (ji15)).length : Int)
             ·rw [if_pos c18] at H
              have c18b0 : decide (x9_1 < ((rd_L1 t146 (ji15)).length : Int)) = true := decide_eq_true c18
              clear c18
              by_cases c19 : x8_1 < (t146.length : Int)
              ·rw [if_pos c19] at H
               have c19b0 : decide (x8_1 < (t146.length : Int)) = true := decide_eq_true c19
               clear c19
               obtain ⟨ji20, hji20⟩ : ∃ j_ : Int, (wrap64 (x9_1 + 1)) = j_ := ⟨_, rfl⟩
               replace H : (if 0 ≤ (ji20) then (if (ji20) < ((rd_L1 t146 x8_1).length : Int) then (if (rd (rd_L1 t146 (ji15)) x9_1) ≥ (rd (rd_L1 t146 x8_1) (ji20)) then (grid_Run.l0 kj4 l0 l1 t146 x7_1 ji15 x9_1) else (grid_Run.l0 kj4 l0 l1 t146 x7_1 x8_1 ji20)) else (none)) else (none)) = some (r1, r2) := by first | (rw [hji20] at H; exact H) | (simp only [hji20] at H ⊢; exact H)
               have hji20w : (IntKind.i64.wrap (x9_1 + 1)) = ji20 := (i64_w _).trans hji20
               by_cases c21 : 0 ≤ (ji20)
               ·rw [if_pos c21] at H
                have c21b0 : decide (0 ≤ (ji20)) = true := decide_eq_true c21
                clear c21
                by_cases c22 : (ji20) < ((rd_L1 t146 x8_1).length : Int)
                ·rw [if_pos c22] at H
                 have c22b0 : decide ((ji20) < ((rd_L1 t146 x8_1).length : Int)) = true := decide_eq_true c22
                 clear c22
                 by_cases c23 : (rd (rd_L1 t146 (ji15)) x9_1) ≥ (rd (rd_L1 t146 x8_1) (ji20))
                 ·rw [if_pos c23] at H
                  have c23b0 : decide ((rd (rd_L1 t146 x8_1) (ji20)) ≤ (rd (rd_L1 t146 (ji15)) x9_1)) = true := decide_eq_true c23
                  clear c23
                  have H' := Aside0.mk H
                  clear H
                  have p149 : 0 ≤ (x8_1 : Int) := of_decide_eq_true (by first | (with_reducible assumption) | assumption)
                  have q149 : x8_1 < (l0.length : Int) := of_decide_eq_true (by first | (with_reducible assumption) | assumption)
                  obtain ⟨ad149, e149, hx149_0⟩ := Kd.at_int HR0.out x8_1 p149 q149
                  cases e149
                  replace hx149_0 := (HB.out.cell (World.block_lt_of_cell? w _ hx149_0)).trans hx149_0
                  replace p149 := eq_true p149
                  replace q149 := eq_true q149
                  have p150 : 0 ≤ (x9_1 : Int) := of_decide_eq_true (by first | (with_reducible assumption) | assumption)
                  have q150 : x9_1 < (l1.length : Int) := of_decide_eq_true (by first | (with_reducible assumption) | assumption)
                  obtain ⟨ad150, e150, hx150_0⟩ := Kd.at_int HR1.out x9_1 p150 q150
                  cases e150
                  replace hx150_0 := (HB.out.cell (World.block_lt_of_cell? w _ hx150_0)).trans hx150_0
                  replace p150 := eq_true p150
                  replace q150 := eq_true q150
                  obtain ⟨Ao24, co24, eo24⟩ := Kd.S_slice HO_6.out
                  subst eo24
                  have p154 : 0 ≤ ((ji15) : Int) := of_decide_eq_true (by first | (with_reducible assumption) | assumption)
                  have q154 : (ji15) < (t146.length : Int) := of_decide_eq_true (by first | (with_reducible assumption) | assumption)
                  try (obtain ⟨Ap154, cp154, ep154⟩ := Kd.S_slice HO_6.out; subst ep154)
                  obtain ⟨ad154, A154_0, c154_0, e154, hx154_0, hl154_0, hi154_0⟩ := at_L1 (Kd.S_reads' HO_6.out).2.2 (ji15) p154 q154
                  cases e154
                  obtain ⟨ce154, hce154, hMe154, hcc154⟩ := Kd.S_get HO_6.out [] (ji15) p154 (by first | exact q154 | exact of_decide_eq_true (by first | (with_reducible assumption) | assumption) | (have e_ := (Kd.S_reads' HO_6.out).1; omega))
                  obtain ⟨ve154_0, rfl, ge154_0⟩ := hMe154
                  have hv154_0 := hcc154 0 _ rfl
                  rw [Nat.add_zero, show ((Kd.slice 3 (Kd.int .i64))).sz = 1 from rfl, Nat.mul_one] at hv154_0
                  replace hv154_0 := Option.some.inj (hv154_0.symm.trans hx154_0)
                  rw [hv154_0] at ge154_0
                  have HL154_0 := Aside0.mk (show Kd.R (Kd.int .i64) 3 _ _ _ _ (rd_L1 t146 (ji15)) from ge154_0)
                  clear hv154_0 ge154_0
                  clear hcc154 hce154
                  have HR154_0 := Aside0.mk hi154_0
                  have HC154_0 := Aside0.mk hl154_0
                  clear hi154_0 hl154_0
                  replace p154 := eq_true p154
                  replace q154 := eq_true q154
                  have p155 : 0 ≤ (x9_1 : Int) := of_decide_eq_true (by first | (with_reducible assumption) | assumption)
                  have q155 : x9_1 < ((rd_L1 t146 (ji15)).length : Int) := of_decide_eq_true (by first | (with_reducible assumption) | assumption)
                  obtain ⟨ad155, e155, hx155_0⟩ := Kd.at_int (by repeat (first | (with_reducible exact HR154_0.out) | (with_reducible refine Kd.C_alloc ?_ _) | (with_reducible refine Kd.C_drewN ?_ _) | (with_reducible refine Kd.C_drew ?_) | exact HR154_0.out)) x9_1 p155 q155
                  cases e155
                  replace p155 := eq_true p155
                  replace q155 := eq_true q155
                  have p156 : 0 ≤ (x8_1 : Int) := of_decide_eq_true (by first | (with_reducible assumption) | assumption)
                  have q156 : x8_1 < (t146.length : Int) := of_decide_eq_true (by first | (with_reducible assumption) | assumption)
                  try (obtain ⟨Ap156, cp156, ep156⟩ := Kd.S_slice HO_6.out; subst ep156)
                  obtain ⟨ad156, A156_0, c156_0, e156, hx156_0, hl156_0, hi156_0⟩ := at_L1 (Kd.S_reads' HO_6.out).2.2 x8_1 p156 q156
                  obtain rfl : ad154 = ad156 := (by injection e156)
                  obtain ⟨ce156, hce156, hMe156, hcc156⟩ := Kd.S_get HO_6.out [] x8_1 p156 (by first | exact q156 | exact of_decide_eq_true (by first | (with_reducible assumption) | assumption) | (have e_ := (Kd.S_reads' HO_6.out).1; omega))
                  obtain ⟨ve156_0, rfl, ge156_0⟩ := hMe156
                  have hv156_0 := hcc156 0 _ rfl
                  rw [Nat.add_zero, show ((Kd.slice 3 (Kd.int .i64))).sz = 1 from rfl, Nat.mul_one] at hv156_0
                  replace hv156_0 := Option.some.inj (hv156_0.symm.trans hx156_0)
                  rw [hv156_0] at ge156_0
                  have HL156_0 := Aside0.mk (show Kd.R (Kd.int .i64) 3 _ _ _ _ (rd_L1 t146 x8_1) from ge156_0)
                  clear hv156_0 ge156_0
                  clear hcc156 hce156
                  have HR156_0 := Aside0.mk hi156_0
                  have HC156_0 := Aside0.mk hl156_0
                  clear hi156_0 hl156_0
                  replace p156 := eq_true p156
                  replace q156 := eq_true q156
                  have p157 : 0 ≤ ((ji20) : Int) := of_decide_eq_true (by first | (with_reducible assumption) | assumption)
                  have q157 : (ji20) < ((rd_L1 t146 x8_1).length : Int) := of_decide_eq_true (by first | (with_reducible assumption) | assumption)
                  obtain ⟨ad157, e157, hx157_0⟩ := Kd.at_int (by repeat (first | (with_reducible exact HR156_0.out) | (with_reducible refine Kd.C_alloc ?_ _) | (with_reducible refine Kd.C_drewN ?_ _) | (with_reducible refine Kd.C_drew ?_) | exact HR156_0.out)) (ji20) p157 q157
                  cases e157
                  replace p157 := eq_true p157
                  replace q157 := eq_true q157
                  go_wp2
                  repeat (go_quiet (fail); try go_wp2)
                  go_roundg kj4
                  case measure => have := HK1.out; have := HJ4.out; omega
                  case rel => exact ⟨(x7_1), (ji15), (x9_1), (by first | rfl | (simp; done) | (simp only [← hji15] <;> (first | rfl | simp)) | (simp [*]; done)), (by first | rfl | (simp; done) | (simp [*]; done)), H', ⟨by have := HK1.out; have := HJ4.out; omega⟩, ⟨by (with_reducible repeat (first | apply Kd.S_alloc | apply Kd.S_drewN | apply Kd.S_drew)); exact HO_6.out⟩, ⟨by (with_reducible repeat (first | apply Kd.R_alloc | apply Kd.R_drewN | apply Kd.R_drew)); exact HO_7.out⟩, ⟨by repeat (first | (with_reducible first | exact HB.out | apply below_alloc | apply pw_below_drewN | apply below_drew1) | exact HB.out)⟩⟩
                 ·rw [if_neg c23] at H
                  have c23b0 : decide ((rd (rd_L1 t146 x8_1) (ji20)) ≤ (rd (rd_L1 t146 (ji15)) x9_1)) = false := decide_eq_false c23
                  clear c23
                  have H' := Aside0.mk H
                  clear H
                  have p149 : 0 ≤ (x8_1 : Int) := of_decide_eq_true (by first | (with_reducible assumption) | assumption)
                  have q149 : x8_1 < (l0.length : Int) := of_decide_eq_true (by first | (with_reducible assumption) | assumption)
                  obtain ⟨ad149, e149, hx149_0⟩ := Kd.at_int HR0.out x8_1 p149 q149
                  cases e149
                  replace hx149_0 := (HB.out.cell (World.block_lt_of_cell? w _ hx149_0)).trans hx149_0
                  replace p149 := eq_true p149
                  replace q149 := eq_true q149
                  have p150 : 0 ≤ (x9_1 : Int) := of_decide_eq_true (by first | (with_reducible assumption) | assumption)
                  have q150 : x9_1 < (l1.length : Int) := of_decide_eq_true (by first | (with_reducible assumption) | assumption)
                  obtain ⟨ad150, e150, hx150_0⟩ := Kd.at_int HR1.out x9_1 p150 q150
                  cases e150
                  replace hx150_0 := (HB.out.cell (World.block_lt_of_cell? w _ hx150_0)).trans hx150_0
                  replace p150 := eq_true p150
                  replace q150 := eq_true q150
                  obtain ⟨Ao25, co25, eo25⟩ := Kd.S_slice HO_6.out
                  subst eo25
                  have p154 : 0 ≤ ((ji15) : Int) := of_decide_eq_true (by first | (with_reducible assumption) | assumption)
                  have q154 : (ji15) < (t146.length : Int) := of_decide_eq_true (by first | (with_reducible assumption) | assumption)
                  try (obtain ⟨Ap154, cp154, ep154⟩ := Kd.S_slice HO_6.out; subst ep154)
                  obtain ⟨ad154, A154_0, c154_0, e154, hx154_0, hl154_0, hi154_0⟩ := at_L1 (Kd.S_reads' HO_6.out).2.2 (ji15) p154 q154
                  cases e154
                  obtain ⟨ce154, hce154, hMe154, hcc154⟩ := Kd.S_get HO_6.out [] (ji15) p154 (by first | exact q154 | exact of_decide_eq_true (by first | (with_reducible assumption) | assumption) | (have e_ := (Kd.S_reads' HO_6.out).1; omega))
                  obtain ⟨ve154_0, rfl, ge154_0⟩ := hMe154
                  have hv154_0 := hcc154 0 _ rfl
                  rw [Nat.add_zero, show ((Kd.slice 3 (Kd.int .i64))).sz = 1 from rfl, Nat.mul_one] at hv154_0
                  replace hv154_0 := Option.some.inj (hv154_0.symm.trans hx154_0)
                  rw [hv154_0] at ge154_0
                  have HL154_0 := Aside0.mk (show Kd.R (Kd.int .i64) 3 _ _ _ _ (rd_L1 t146 (ji15)) from ge154_0)
                  clear hv154_0 ge154_0
                  clear hcc154 hce154
                  have HR154_0 := Aside0.mk hi154_0
                  have HC154_0 := Aside0.mk hl154_0
                  clear hi154_0 hl154_0
                  replace p154 := eq_true p154
                  replace q154 := eq_true q154
                  have p155 : 0 ≤ (x9_1 : Int) := of_decide_eq_true (by first | (with_reducible assumption) | assumption)
                  have q155 : x9_1 < ((rd_L1 t146 (ji15)).length : Int) := of_decide_eq_true (by first | (with_reducible assumption) | assumption)
                  obtain ⟨ad155, e155, hx155_0⟩ := Kd.at_int (by repeat (first | (with_reducible exact HR154_0.out) | (with_reducible refine Kd.C_alloc ?_ _) | (with_reducible refine Kd.C_drewN ?_ _) | (with_reducible refine Kd.C_drew ?_) | exact HR154_0.out)) x9_1 p155 q155
                  cases e155
                  replace p155 := eq_true p155
                  replace q155 := eq_true q155
                  have p156 : 0 ≤ (x8_1 : Int) := of_decide_eq_true (by first | (with_reducible assumption) | assumption)
                  have q156 : x8_1 < (t146.length : Int) := of_decide_eq_true (by first | (with_reducible assumption) | assumption)
                  try (obtain ⟨Ap156, cp156, ep156⟩ := Kd.S_slice HO_6.out; subst ep156)
                  obtain ⟨ad156, A156_0, c156_0, e156, hx156_0, hl156_0, hi156_0⟩ := at_L1 (Kd.S_reads' HO_6.out).2.2 x8_1 p156 q156
                  obtain rfl : ad154 = ad156 := (by injection e156)
                  obtain ⟨ce156, hce156, hMe156, hcc156⟩ := Kd.S_get HO_6.out [] x8_1 p156 (by first | exact q156 | exact of_decide_eq_true (by first | (with_reducible assumption) | assumption) | (have e_ := (Kd.S_reads' HO_6.out).1; omega))
                  obtain ⟨ve156_0, rfl, ge156_0⟩ := hMe156
                  have hv156_0 := hcc156 0 _ rfl
                  rw [Nat.add_zero, show ((Kd.slice 3 (Kd.int .i64))).sz = 1 from rfl, Nat.mul_one] at hv156_0
                  replace hv156_0 := Option.some.inj (hv156_0.symm.trans hx156_0)
                  rw [hv156_0] at ge156_0
                  have HL156_0 := Aside0.mk (show Kd.R (Kd.int .i64) 3 _ _ _ _ (rd_L1 t146 x8_1) from ge156_0)
                  clear hv156_0 ge156_0
                  clear hcc156 hce156
                  have HR156_0 := Aside0.mk hi156_0
                  have HC156_0 := Aside0.mk hl156_0
                  clear hi156_0 hl156_0
                  replace p156 := eq_true p156
                  replace q156 := eq_true q156
                  have p157 : 0 ≤ ((ji20) : Int) := of_decide_eq_true (by first | (with_reducible assumption) | assumption)
                  have q157 : (ji20) < ((rd_L1 t146 x8_1).length : Int) := of_decide_eq_true (by first | (with_reducible assumption) | assumption)
                  obtain ⟨ad157, e157, hx157_0⟩ := Kd.at_int (by repeat (first | (with_reducible exact HR156_0.out) | (with_reducible refine Kd.C_alloc ?_ _) | (with_reducible refine Kd.C_drewN ?_ _) | (with_reducible refine Kd.C_drew ?_) | exact HR156_0.out)) (ji20) p157 q157
                  cases e157
                  replace p157 := eq_true p157
                  replace q157 := eq_true q157
                  go_wp2
                  repeat (go_quiet (fail); try go_wp2)
                  go_roundg kj4
                  case measure => have := HK1.out; have := HJ4.out; omega
                  case rel => exact ⟨(x7_1), (x8_1), (ji20), (by first | rfl | (simp; done) | (simp [*]; done)), (by first | rfl | (simp; done) | (simp only [← hji20] <;> (first | rfl | simp)) | (simp [*]; done)), H', ⟨by have := HK1.out; have := HJ4.out; omega⟩, ⟨by (with_reducible repeat (first | apply Kd.S_alloc | apply Kd.S_drewN | apply Kd.S_drew)); exact HO_6.out⟩, ⟨by (with_reducible repeat (first | apply Kd.R_alloc | apply Kd.R_drewN | apply Kd.R_drew)); exact HO_7.out⟩, ⟨by repeat (first | (with_reducible first | exact HB.out | apply below_alloc | apply pw_below_drewN | apply below_drew1) | exact HB.out)⟩⟩
                ·rw [if_neg c22] at H
                 exact absurd H (by simp)
               ·rw [if_neg c21] at H
                exact absurd H (by simp)
              ·rw [if_neg c19] at H
               exact absurd H (by simp)
             ·rw [if_neg c18] at H
              exact absurd H (by simp)
            ·rw [if_neg c17] at H
             exact absurd H (by simp)
           ·rw [if_neg c16] at H
            exact absurd H (by simp)
         ·rw [if_neg c11] at H
          exact absurd H (by simp)
        ·rw [if_neg c10] at H
         exact absurd H (by simp)
       ·rw [if_neg c9] at H
        exact absurd H (by simp)
      ·rw [if_neg c8] at H
       exact absurd H (by simp)
     ·replace c7 := Bool.eq_false_iff.mpr c7
      subst c7
      have H1 : (some (x7_1, wrap64 ((l0.length : Int) * (l1.length : Int)))) = some (r1, r2) := by rw [if_neg (show ¬ (false = true) by decide)] at H; exact H
      clear H
      have H := H1
      clear H1
      simp only [Option.some.injEq, Prod.mk.injEq] at H
      obtain ⟨rfl, rfl⟩ := H
      go_wp2
      repeat (go_quiet (fail); try go_wp2)
      go_ret2
      exact ⟨_, by first | rfl | (simp [errW_none, errW_some] <;> rfl) | (simp [*, errW_none, errW_some] <;> rfl), by (with_reducible repeat (first | apply Kd.R_alloc | apply Kd.R_drewN | apply Kd.R_drew)); exact HO_7.out, by repeat (first | (with_reducible first | exact HB.out | apply below_alloc | apply pw_below_drewN | apply below_drew1) | exact HB.out)⟩

end Go.Proofs.Ytknfcipjbhhldaa.PGridAhead
