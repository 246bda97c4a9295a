/- What the given program's functions come to, each a Lean function and the walk that shows it: no condition beside those that each theorem names. -/
import Derived.Test.YtcjngbpmdmfbdaaPBandRunsx0
import Derived.Test.YtcjngbpmdmfbdaaPBandRunsx1
import Derived.Test.YtcjngbpmdmfbdaaPBandRunsx5
namespace Go.Proofs.Ytcjngbpmdmfbdaa.PBandRuns
open Go.RowKit Go.Proofs.YtcjngbpmdmfbdaaW.PrintWords Go.Proofs.YtcjngbpmdmfbdaaW.PrintLast Go.Proofs.YtcjngbpmdmfbdaaW.PrintMore
attribute [local go_sem] max2_int min2_int max_two min_two max_three min_three max_four min_four   -- for this text's walks alone
set_option linter.unusedVariables false
set_option linter.unusedSimpArgs false

/-! ### band_back: function 24 -/
mutual
def band_back.l0 : Nat → List Int → List Int → List (S43) → List (S49) → Int → Int → Option ((List (S49)))
 | 0, _, _, _, _, _, _ => none
 | k + 1, x0, x1, x2, x7, x8, x9 => if x8 > 0 then (band_back.j1 k x0 x1 x2 x7 x8 x9 (decide (x9 > 0))) else (band_back.j1 k x0 x1 x2 x7 x8 x9 false)
def band_back.j1 : Nat → List Int → List Int → List (S43) → List (S49) → Int → Int → Bool → Option ((List (S49)))
 | 0, _, _, _, _, _, _, _ => none
 | k + 1, x0, x1, x2, x7, x8, x9, x19 => if x19 = true then (if 0 ≤ (wrap64 (x8 - 1)) then (if (wrap64 (x8 - 1)) < (x0.length : Int) then (if 0 ≤ (wrap64 (x9 - 1)) then (if (wrap64 (x9 - 1)) < (x1.length : Int) then (if (rd x0 (wrap64 (x8 - 1))) = (rd x1 (wrap64 (x9 - 1))) then (if x7.length < 8796093022208 then (band_back.l0 k x0 x1 x2 (x7 ++ [(⟨wrap64 (x8 - 1), wrap64 (x9 - 1)⟩ : S49)]) (wrap64 (x8 - 1)) (wrap64 (x9 - 1))) else (none)) else (if (wrap64 (x8 - 1)) < (x2.length : Int) then ((band_line_at.f ((rd_T43 x2 (wrap64 (x8 - 1))).f0) ((rd_T43 x2 (wrap64 (x8 - 1))).f1) x9).bind fun t201 => (if 0 ≤ x8 then (if x8 < (x2.length : Int) then ((band_line_at.f ((rd_T43 x2 x8).f0) ((rd_T43 x2 x8).f1) (wrap64 (x9 - 1))).bind fun t203 => (if t201 ≤ t203 then (band_back.l0 k x0 x1 x2 x7 (wrap64 (x8 - 1)) x9) else (band_back.l0 k x0 x1 x2 x7 x8 (wrap64 (x9 - 1))))) else (none)) else (none))) else (none))) else (none)) else (none)) else (none)) else (none)) else ((api_Pair.f k x7).bind fun t194 => (some t194))
end
def band_back.f (k : Nat) (l0 : List Int) (l1 : List Int) (l2 : List (S43)) : Option ((List (S49))) := band_back.l0 k l0 l1 l2 ([] : List (S49)) (l0.length : Int) (l1.length : Int)
theorem band_back.mono_l : ∀ k, (∀ y0 y1 y2 y3 y4 y5, LeO (band_back.l0 k y0 y1 y2 y3 y4 y5) (band_back.l0 (k + 1) y0 y1 y2 y3 y4 y5)) ∧ (∀ y0 y1 y2 y3 y4 y5 y6, LeO (band_back.j1 k y0 y1 y2 y3 y4 y5 y6) (band_back.j1 (k + 1) y0 y1 y2 y3 y4 y5 y6))
 | 0 => ⟨fun _ _ _ _ _ _ r h => by simp [band_back.l0] at h, fun _ _ _ _ _ _ _ r h => by simp [band_back.j1] at h⟩
 | k + 1 => by
  obtain ⟨ih0, ih1⟩ := band_back.mono_l k
  refine ⟨?_, ?_⟩
  ·intro y0 y1 y2 y3 y4 y5
   unfold band_back.l0
   repeat' first
   | (with_reducible exact ih0 _ _ _ _ _ _)
   | (with_reducible exact ih1 _ _ _ _ _ _ _)
   | (with_reducible exact api_Pair.mono _ _)
   | (with_reducible exact LeO.refl _)
   | (with_reducible exact LeO.none _)
   | (with_reducible refine LeO.ite ?_ ?_)
   | (with_reducible refine LeO.bind ?_ (fun _ => ?_))
   | exact ih0 _ _ _ _ _ _
   | exact ih1 _ _ _ _ _ _ _
   | exact api_Pair.mono _ _
   | exact LeO.none _
   | refine LeO.ite ?_ ?_
   | refine LeO.bind ?_ (fun _ => ?_)
  ·intro y0 y1 y2 y3 y4 y5 y6
   unfold band_back.j1
   repeat' first
   | (with_reducible exact ih0 _ _ _ _ _ _)
   | (with_reducible exact ih1 _ _ _ _ _ _ _)
   | (with_reducible exact api_Pair.mono _ _)
   | (with_reducible exact LeO.refl _)
   | (with_reducible exact LeO.none _)
   | (with_reducible refine LeO.ite ?_ ?_)
   | (with_reducible refine LeO.bind ?_ (fun _ => ?_))
   | exact ih0 _ _ _ _ _ _
   | exact ih1 _ _ _ _ _ _ _
   | exact api_Pair.mono _ _
   | exact LeO.none _
   | refine LeO.ite ?_ ?_
   | refine LeO.bind ?_ (fun _ => ?_)
theorem band_back.mono : ∀ a0 a1 a2 k, LeO (band_back.f k a0 a1 a2) (band_back.f (k + 1) a0 a1 a2) := by
 intro a0 a1 a2 k
 obtain ⟨ih0, ih1⟩ := band_back.mono_l k
 unfold band_back.f
 repeat' first
   | (with_reducible exact ih0 _ _ _ _ _ _)
   | (with_reducible exact ih1 _ _ _ _ _ _ _)
   | (with_reducible exact api_Pair.mono _ _)
   | (with_reducible exact LeO.refl _)
   | (with_reducible exact LeO.none _)
   | (with_reducible refine LeO.ite ?_ ?_)
   | (with_reducible refine LeO.bind ?_ (fun _ => ?_))
   | exact ih0 _ _ _ _ _ _
   | exact ih1 _ _ _ _ _ _ _
   | exact api_Pair.mono _ _
   | exact LeO.none _
   | refine LeO.ite ?_ ?_
   | refine LeO.bind ?_ (fun _ => ?_)
def band_back.T5 : Bool × List (List Nat × List Nat) := (true, [([], []), ([], []), ([1], [1]), ([0, 2], [0, 2]), ([3], [3]), ([], []), ([], []), ([6], [6]), ([5, 7], [5, 7]), ([8], [8]), ([4, 9], [4, 9]), ([10], [10])])
def band_back.B5 : List Nat := [0, 0, 2, 7, 15, 0, 0, 64, 224, 480, 1023, 2047]
theorem band_back.tab5 : rtab .any (opsOf Try.f24 5) = band_back.T5 := by kernel_rfl
theorem band_back.bits5 : waitsOk band_back.T5.2 band_back.B5 = true := by kernel_rfl
def band_back.T8 : Bool × List (List Nat × List Nat) := (true, [([], []), ([], []), ([1], [1]), ([0, 2], [0, 2]), ([3], [3]), ([], []), ([4, 5], [4, 5]), ([], []), ([], []), ([7, 8], [7, 8]), ([9], [9]), ([], []), ([11], [11]), ([10, 12, 6], [10, 12]), ([6, 13], [6, 13]), ([14, 13], [14])])
def band_back.B8 : List Nat := [0, 0, 2, 7, 15, 0, 63, 0, 0, 384, 896, 0, 2048, 8191, 16383, 32767]
theorem band_back.tab8 : rtab .any (opsOf Try.f24 8) = band_back.T8 := by kernel_rfl
theorem band_back.bits8 : waitsOk band_back.T8.2 band_back.B8 = true := by kernel_rfl
set_option maxHeartbeats 8000000 in
set_option maxRecDepth 100000 in
theorem band_back.calls (k : Nat) (A0 : Option Addr) (c0 : Nat) (l0 : List Int) (A1 : Option Addr) (c1 : Nat) (l1 : List Int) (A2 : Option Addr) (c2 : Nat) (l2 : List (S43)) (r : List (S49)) (w : World) (hr0 : Kd.C (Kd.int .i64) w A0 l0.length l0) (hc0 : l0.length ≤ c0) (hr1 : Kd.C (Kd.int .i64) w A1 l1.length l1) (hc1 : l1.length ≤ c1) (hr2 : Kd.C k43 w A2 l2.length l2) (hc2 : l2.length ≤ c2) (h : band_back.f k l0 l1 l2 = some r) :
  Calls Try.prog 24 #[.slice A0 l0.length c0, .slice A1 l1.length c1, .slice A2 l2.length c2] w fun e w' => ∃ v0_ : Value, e = .returned (v0_) ∧ Kd.R k49 49 w' w.heap.size (fun _ => True) v0_ r ∧ Below w.heap.size w w' := by
 have hu49 := Try.underlying49
 have hu43 := Try.underlying43
 have HR0 := Aside0.mk hr0
 have HC0 := Aside0.mk hc0
 clear hr0 hc0
 have HR1 := Aside0.mk hr1
 have HC1 := Aside0.mk hc1
 clear hr1 hc1
 have HR2 := Aside0.mk hr2
 have HC2 := Aside0.mk hc2
 clear hr2 hc2
 have HB := Aside0.mk (Below.refl w.heap.size w)
 have H : (band_back.l0 k l0 l1 l2 ([] : List (S49)) (l0.length : Int) (l1.length : Int)) = some r := h
 clear h
 have H' := Aside0.mk H
 clear H
 go_enter Try.func24, Try.ntmps24
 try dsimp only [List.append]
 go_wp2
 go_loopg [7, 8, 9] k (fun kq v7 v8 v9 w' => ∃ (x7_1 : List (S49)) (x8_1 : Int) (x9_1 : Int), v8 = .int .i64 x8_1 ∧ v9 = .int .i64 x9_1 ∧ Aside0 (band_back.l0 kq l0 l1 l2 x7_1 x8_1 x9_1 = some r) ∧ Aside0 (kq ≤ k) ∧ Aside0 (Kd.R k49 49 w' w.heap.size (fun _ => True) v7 x7_1) ∧ Aside0 (Below w.heap.size w w'))
 case atStart => exact ⟨(([] : List (S49))), ((l0.length : Int)), ((l1.length : Int)), (by first | rfl | (simp; done) | (simp [*]; done)), (by first | rfl | (simp; done) | (simp [*]; done)), H', ⟨Nat.le_refl _⟩, ⟨by first | exact Kd.R_nil _ _ _ _ _ | exact Kd.N_nil _ _ _ _ _ | exact Kd.V_nil _ _ _ _ _ | exact Kd.Q_nil _ _ _ _ _ | exact Kd.S_nil _ _ _ _ _⟩, ⟨by repeat (first | (with_reducible first | exact HB.out | apply below_alloc | apply pw_below_drewN | apply below_drew1) | exact HB.out)⟩⟩
 case round =>
  clear H'
  try clear c1
  try clear c2
  try clear p2
  obtain ⟨x7_1, x8_1, x9_1, rfl, rfl, HA, HK1, HO_7, HB⟩ := hrel
  cases gk with
  | zero => exact absurd HA.out (by simp [band_back.l0])
  | succ k1 =>
   have H := HA.out
   clear HA
   simp only [band_back.l0] at H
   have HC4 := Aside0.mk H
   clear H
   go_upto_region 3 with (fail)
   go_cut [19] (fun v19 wc => ∃ (kq : Nat) (x19_3 : Bool), v19 = .bool x19_3 ∧ Aside0 (band_back.j1 kq l0 l1 l2 x7_1 x8_1 x9_1 x19_3 = some r) ∧ Aside0 (kq ≤ k1) ∧ Aside0 (Kd.R k49 49 wc w.heap.size (fun _ => True) u7 x7_1) ∧ Aside0 (Below w.heap.size w wc))
   case first =>
    have H := HC4.out
    clear HC4
    by_cases c5 : x8_1 > 0
    ·rw [if_pos c5] at H
     have c5b0 : decide (0 < x8_1) = true := decide_eq_true c5
     clear c5
     (first | rw [c5b0] | (simp only [i64_w, i32_w]; rw [c5b0]) | skip)
     have H' := Aside0.mk H
     clear H
     go_wp2
     go_meet
     case rel => exact ⟨_, (decide (x9_1 > 0)), (by first | rfl | (simp; done) | (simp [*]; done)), H', ⟨by have := HK1.out; first | omega | exact Nat.le_refl _⟩, ⟨by (with_reducible repeat (first | apply Kd.R_alloc | apply Kd.R_drewN | apply Kd.R_drew)); exact HO_7.out⟩, ⟨by repeat (first | (with_reducible first | exact HB.out | apply below_alloc | apply pw_below_drewN | apply below_drew1) | exact HB.out)⟩⟩
    ·rw [if_neg c5] at H
     have c5b0 : decide (0 < x8_1) = false := decide_eq_false c5
     clear c5
     (first | rw [c5b0] | (simp only [i64_w, i32_w]; rw [c5b0]) | skip)
     have H' := Aside0.mk H
     clear H
     go_wp2
     go_meet
     case rel => exact ⟨_, (false), (by first | rfl | (simp; done) | (simp [*]; done)), H', ⟨by have := HK1.out; first | omega | exact Nat.le_refl _⟩, ⟨by (with_reducible repeat (first | apply Kd.R_alloc | apply Kd.R_drewN | apply Kd.R_drew)); exact HO_7.out⟩, ⟨by repeat (first | (with_reducible first | exact HB.out | apply below_alloc | apply pw_below_drewN | apply below_drew1) | exact HB.out)⟩⟩
   case rest =>
    clear HC4
    try clear c1
    try clear c2
    try clear p2
    try clear c5
    try clear c5b0
    try clear p2
    obtain ⟨kq, x19_3, rfl, HA, HJ3, HO_7, HB⟩ := hcut
    cases kq with
    | zero => exact absurd HA.out (by simp [band_back.j1])
    | succ kj3 =>
     have H := HA.out
     clear HA
     simp only [band_back.j1] at H
     by_cases c6 : x19_3 = true
     ·subst c6
      have H1 : (if 0 ≤ (wrap64 (x8_1 - 1)) then (if (wrap64 (x8_1 - 1)) < (l0.length : Int) then (if 0 ≤ (wrap64 (x9_1 - 1)) then (if (wrap64 (x9_1 - 1)) < (l1.length : Int) then (if (rd l0 (wrap64 (x8_1 - 1))) = (rd l1 (wrap64 (x9_1 - 1))) then (if x7_1.length < 8796093022208 then (band_back.l0 kj3 l0 l1 l2 (x7_1 ++ [(⟨wrap64 (x8_1 - 1), wrap64 (x9_1 - 1)⟩ : S49)]) (wrap64 (x8_1 - 1)) (wrap64 (x9_1 - 1))) else (none)) else (if (wrap64 (x8_1 - 1)) < (l2.length : Int) then ((band_line_at.f ((rd_T43 l2 (wrap64 (x8_1 - 1))).f0) ((rd_T43 l2 (wrap64 (x8_1 - 1))).f1) x9_1).bind fun t201 => (if 0 ≤ x8_1 then (if x8_1 < (l2.length : Int) then ((band_line_at.f ((rd_T43 l2 x8_1).f0) ((rd_T43 l2 x8_1).f1) (wrap64 (x9_1 - 1))).bind fun t203 => (if t201 ≤ t203 then (band_back.l0 kj3 l0 l1 l2 x7_1 (wrap64 (x8_1 - 1)) x9_1) else (band_back.l0 kj3 l0 l1 l2 x7_1 x8_1 (wrap64 (x9_1 - 1))))) else (none)) else (none))) else (none))) else (none)) else (none)) else (none)) else (none)) = some r := by rw [if_pos rfl] at H; exact H
      clear H
      have H := H1
      clear H1
      obtain ⟨ji7, hji7⟩ : ∃ j_ : Int, (wrap64 (x8_1 - 1)) = j_ := ⟨_, rfl⟩
      replace H : (if 0 ≤ (ji7) then (if (ji7) < (l0.length : Int) then (if 0 ≤ (wrap64 (x9_1 - 1)) then (if (wrap64 (x9_1 - 1)) < (l1.length : Int) then (if (rd l0 (ji7)) = (rd l1 (wrap64 (x9_1 - 1))) then (if x7_1.length < 8796093022208 then (band_back.l0 kj3 l0 l1 l2 (x7_1 ++ [(⟨ji7, wrap64 (x9_1 - 1)⟩ : S49)]) ji7 (wrap64 (x9_1 - 1))) else (none)) else (if (ji7) < (l2.length : Int) then ((band_line_at.f ((rd_T43 l2 (ji7)).f0) ((rd_T43 l2 (ji7)).f1) x9_1).bind fun t201 => (if 0 ≤ x8_1 then (if x8_1 < (l2.length : Int) then ((band_line_at.f ((rd_T43 l2 x8_1).f0) ((rd_T43 l2 x8_1).f1) (wrap64 (x9_1 - 1))).bind fun t203 => (if t201 ≤ t203 then (band_back.l0 kj3 l0 l1 l2 x7_1 ji7 x9_1) else (band_back.l0 kj3 l0 l1 l2 x7_1 x8_1 (wrap64 (x9_1 - 1))))) else (none)) else (none))) else (none))) else (none)) else (none)) else (none)) else (none)) = some r := by first | (rw [hji7] at H; exact H) | (simp only [hji7] at H ⊢; exact H)
      have hji7w : (IntKind.i64.wrap (x8_1 - 1)) = ji7 := (i64_w _).trans hji7
      by_cases c8 : 0 ≤ (ji7)
      ·rw [if_pos c8] at H
       have c8b0 : decide (0 ≤ (ji7)) = true := decide_eq_true c8
       clear c8
       by_cases c9 : (ji7) < (l0.length : Int)
       ·rw [if_pos c9] at H
        have c9b0 : decide ((ji7) < (l0.length : Int)) = true := decide_eq_true c9
        clear c9
        obtain ⟨ji10, hji10⟩ : ∃ j_ : Int, (wrap64 (x9_1 - 1)) = j_ := ⟨_, rfl⟩
        replace H : (if 0 ≤ (ji10) then (if (ji10) < (l1.length : Int) then (if (rd l0 (ji7)) = (rd l1 (ji10)) then (if x7_1.length < 8796093022208 then (band_back.l0 kj3 l0 l1 l2 (x7_1 ++ [(⟨ji7, ji10⟩ : S49)]) ji7 ji10) else (none)) else (if (ji7) < (l2.length : Int) then ((band_line_at.f ((rd_T43 l2 (ji7)).f0) ((rd_T43 l2 (ji7)).f1) x9_1).bind fun t201 => (if 0 ≤ x8_1 then (if x8_1 < (l2.length : Int) then ((band_line_at.f ((rd_T43 l2 x8_1).f0) ((rd_T43 l2 x8_1).f1) (ji10)).bind fun t203 => (if t201 ≤ t203 then (band_back.l0 kj3 l0 l1 l2 x7_1 ji7 x9_1) else (band_back.l0 kj3 l0 l1 l2 x7_1 x8_1 ji10))) else (none)) else (none))) else (none))) else (none)) else (none)) = some r := by first | (rw [hji10] at H; exact H) | (simp only [hji10] at H ⊢; exact H)
        have hji10w : (IntKind.i64.wrap (x9_1 - 1)) = ji10 := (i64_w _).trans hji10
        by_cases c11 : 0 ≤ (ji10)
        ·rw [if_pos c11] at H
         have c11b0 : decide (0 ≤ (ji10)) = true := decide_eq_true c11
         clear c11
         by_cases c12 : (ji10) < (l1.length : Int)
         ·rw [if_pos c12] at H
          have c12b0 : decide ((ji10) < (l1.length : Int)) = true := decide_eq_true c12
          clear c12
          by_cases c13 : (rd l0 (ji7)) = (rd l1 (ji10))
          ·rw [if_pos c13] at H
           have c13b0 : ((rd l0 (ji7)) == (rd l1 (ji10))) = true := beq_iff_eq.mpr c13
           have c13b1 : ((rd l0 (ji7)) != (rd l1 (ji10))) = false := bne_eq_false_iff_eq.mpr c13
           clear c13
           by_cases c14 : x7_1.length < 8796093022208
           ·rw [if_pos c14] at H
            have LMc14 := Aside0.mk c14
            clear c14
            obtain ⟨y197, hy197⟩ : ∃ y_ : List (S49), y_ = (x7_1 ++ [(⟨ji7, ji10⟩ : S49)]) := ⟨_, rfl⟩
            replace H : (band_back.l0 kj3 l0 l1 l2 y197 ji7 ji10) = some r := by first | (rw [hy197]; with_reducible exact H) | (have H2_ := (Option.bind_some _ _).symm.trans H; rw [hy197]; with_reducible exact H2_) | (have H2_ := (Option.bind_some _ _).symm.trans H; with_reducible exact H2_) | with_reducible exact H | (rw [hy197]; exact H) | exact H
            have Ny197 := Aside0.mk hy197
            clear hy197
            have H' := Aside0.mk H
            clear H
            try go_wp2
            have n0_ := Aside0.mk (Kd.R_drew HO_7.out)
            have n1_ := Aside0.mk (below_drew1 HB.out)
            clear HO_7
            clear HB
            have HO_7 := n0_
            have HB := n1_
            clear n0_ n1_
            have p195 : 0 ≤ ((ji7) : Int) := of_decide_eq_true (by first | (with_reducible assumption) | assumption)
            have q195 : (ji7) < (l0.length : Int) := of_decide_eq_true (by first | (with_reducible assumption) | assumption)
            obtain ⟨ad195, e195, hx195_0⟩ := Kd.at_int HR0.out (ji7) p195 q195
            have hw195_0 := hx195_0
            cases e195
            replace hx195_0 := (HB.out.cell (World.block_lt_of_cell? w _ hx195_0)).trans hx195_0
            replace p195 := eq_true p195
            replace q195 := eq_true q195
            have p196 : 0 ≤ ((ji10) : Int) := of_decide_eq_true (by first | (with_reducible assumption) | assumption)
            have q196 : (ji10) < (l1.length : Int) := of_decide_eq_true (by first | (with_reducible assumption) | assumption)
            obtain ⟨ad196, e196, hx196_0⟩ := Kd.at_int HR1.out (ji10) p196 q196
            have hw196_0 := hx196_0
            cases e196
            replace hx196_0 := (HB.out.cell (World.block_lt_of_cell? w _ hx196_0)).trans hx196_0
            replace p196 := eq_true p196
            replace q196 := eq_true q196
            refine start_ (n := 12) (S := fun w' => w'.cell? (ad195.add ((ji7)).toNat) = some (.int .i64 (rd l0 (ji7))) ∧ w'.cell? (ad196.add ((ji10)).toNat) = some (.int .i64 (rd l1 (ji10)))) (ds := []) #[N,N,N,N,N,N,N,N,N,N,N,N] (by kernel_rfl) rfl rfl ⟨((HB.out.cell (World.block_lt_of_cell? w _ hw195_0)).trans hw195_0), ((HB.out.cell (World.block_lt_of_cell? w _ hw196_0)).trans hw196_0)⟩ (fun hHeld => ?_); refine with_tabW band_back.tab5 band_back.bits5 (fun HT_ HW_ => ?_)
            generalize wc.drew = w15 at HO_7 HB hx195_0 hx196_0 hHeld ⊢
            refine pure_ (i := 0) (N := some 23) (v := ?_) (a' := ?_) #[Y,N,N,N,N,N,N,N,N,N,N,N] rfl rfl (any_of HT_.out (by kernel_rfl)) (fun _ _ _ h => h) (Or.inl ⟨by rfl, ?_⟩) ?_ ?_; rotate_left
            ·intro w'; go_simp; with_reducible rfl
            rotate_left
            ·simp only [Act.put, sA,sB,sC, i64_w, i32_w]; rfl
            refine pure_ (i := 1) (N := some 24) (v := ?_) (a' := ?_) #[Y,Y,N,N,N,N,N,N,N,N,N,N] rfl rfl (any_of HT_.out (by kernel_rfl)) (fun _ _ _ h => h) (Or.inl ⟨by rfl, ?_⟩) ?_ ?_; rotate_left
            ·intro w'; go_simp; with_reducible rfl
            rotate_left
            ·simp only [Act.put, sA,sB,sC, i64_w, i32_w]; rfl
            refine pure_ (i := 2) (N := some 25) (v := ?_) (a' := ?_) #[Y,Y,Y,N,N,N,N,N,N,N,N,N] rfl rfl (any_of HT_.out (by kernel_rfl)) (fun _ _ _ h => h) (Or.inl ⟨by rfl, ?_⟩) ?_ ?_; rotate_left
            ·intro w'; go_simp; with_reducible rfl
            rotate_left
            ·simp only [Act.put, sA,sB,sC, i64_w, i32_w]; rfl
            refine pure_ (i := 3) (N := some 26) (v := ?_) (a' := ?_) #[Y,Y,Y,Y,N,N,N,N,N,N,N,N] rfl rfl (any_of HT_.out (by kernel_rfl)) (fun _ _ _ h => h) (Or.inl ⟨by rfl, ?_⟩) ?_ ?_; rotate_left
            ·intro w'; go_simp; with_reducible rfl
            rotate_left
            ·simp only [Act.put, sA,sB,sC, i64_w, i32_w]; rfl
            refine pure_ (i := 5) (N := some 28) (v := ?_) (a' := ?_) #[Y,Y,Y,Y,N,Y,N,N,N,N,N,N] rfl rfl (any_of HT_.out (by kernel_rfl)) (fun _ _ _ h => h) (Or.inl ⟨by rfl, ?_⟩) ?_ ?_; rotate_left
            ·intro w'; go_simp; with_reducible rfl
            rotate_left
            ·simp only [Act.put, sA,sB,sC, i64_w, i32_w]; rfl
            refine pure_ (i := 6) (N := some 29) (v := ?_) (a' := ?_) #[Y,Y,Y,Y,N,Y,Y,N,N,N,N,N] rfl rfl (any_of HT_.out (by kernel_rfl)) (fun _ _ _ h => h) (Or.inl ⟨by rfl, ?_⟩) ?_ ?_; rotate_left
            ·intro w'; go_simp; with_reducible rfl
            rotate_left
            ·simp only [Act.put, sA,sB,sC, i64_w, i32_w]; rfl
            refine pure_ (i := 7) (N := some 30) (v := ?_) (a' := ?_) #[Y,Y,Y,Y,N,Y,Y,Y,N,N,N,N] rfl rfl (any_of HT_.out (by kernel_rfl)) (fun _ _ _ h => h) (Or.inl ⟨by rfl, ?_⟩) ?_ ?_; rotate_left
            ·intro w'; go_simp; with_reducible rfl
            rotate_left
            ·simp only [Act.put, sA,sB,sC, i64_w, i32_w]; rfl
            refine pure_ (i := 8) (N := some 31) (v := ?_) (a' := ?_) #[Y,Y,Y,Y,N,Y,Y,Y,Y,N,N,N] rfl rfl (any_of HT_.out (by kernel_rfl)) (fun _ _ _ h => h) (Or.inl ⟨by rfl, ?_⟩) ?_ ?_; rotate_left
            ·intro w'; go_simp; with_reducible rfl
            rotate_left
            ·simp only [Act.put, sA,sB,sC, i64_w, i32_w]; rfl
            refine take_ (i := 4) (N := some 27) (v := ?_) (a' := ?_) #[Y,Y,Y,Y,Y,Y,Y,Y,Y,N,N,N] rfl rfl (take_ofW HT_.out HW_.out (by kernel_rfl)) (fun _ _ _ h => h) (Or.inl ⟨by rfl, ?_⟩) hHeld ?_ ?_; rotate_left
            ·rintro w' ⟨s0, s1⟩; go_simp; with_reducible rfl
            rotate_left
            ·simp only [Act.put, sA,sB,sC, i64_w, i32_w]; rfl
            refine take_ (i := 9) (N := some 32) (v := ?_) (a' := ?_) #[Y,Y,Y,Y,Y,Y,Y,Y,Y,Y,N,N] rfl rfl (take_ofW HT_.out HW_.out (by kernel_rfl)) (fun _ _ _ h => h) (Or.inl ⟨by rfl, ?_⟩) hHeld ?_ ?_; rotate_left
            ·rintro w' ⟨s0, s1⟩; go_simp; with_reducible rfl
            rotate_left
            ·simp only [Act.put, sA,sB,sC, i64_w, i32_w]; rfl
            refine pure_ (i := 10) (N := some 33) (v := ?_) (a' := ?_) #[Y,Y,Y,Y,Y,Y,Y,Y,Y,Y,Y,N] rfl rfl (any_of HT_.out (by kernel_rfl)) (fun _ _ _ h => h) (Or.inl ⟨by rfl, ?_⟩) ?_ ?_; rotate_left
            ·intro w'; go_simp; with_reducible rfl
            rotate_left
            ·simp only [Act.put, sA,sB,sC, i64_w, i32_w]; rfl
            refine pure_ (i := 11) (N := some 22) (v := ?_) (a' := ?_) #[Y,Y,Y,Y,Y,Y,Y,Y,Y,Y,Y,Y] rfl rfl (any_of HT_.out (by kernel_rfl)) (fun _ _ _ h => h) (Or.inl ⟨by rfl, ?_⟩) ?_ ?_; rotate_left
            ·intro w'; go_simp; with_reducible rfl
            rotate_left
            ·simp only [Act.put, sA,sB,sC, i64_w, i32_w]; rfl
            refine done_ (done_of HT_.out (by kernel_rfl)) ?_
            try go_wp2_with (first | ((with_reducible refine gate_builtin (b := .append) (xs := #[.tmp 34, .tmp 40]) rfl ?_); at_builtin; refine Kd.R_append k49 (w0 := w) w.heap.size rfl (.tmp 34) (.tmp 40) 34 49 (.agg #[(.int .i64 0), (.int .i64 0)]) 16 rfl Try.underlying34 info49 rfl (by decide) (by omega) u7 x7_1 (⟨ji7, ji10⟩ : S49) [.int .i64 ji7, .int .i64 ji10] (fun _ => True) (fun _ => False) rfl rfl ?aP (fun _ hk => hk.elim) ?aF ?aO ?aB ?aS ?aL ?_; (case aP => exact k49_mkM _ _ _ (⟨ji7, ji10⟩ : S49)); (case aB => exact (by repeat (first | (with_reducible first | exact HB.out | apply below_alloc | apply pw_below_drewN | apply below_drew1) | exact HB.out))); (case aF => exact (fun _ _ => trivial)); (case aO => exact (by (with_reducible repeat (first | apply Kd.R_alloc | apply Kd.R_drewN | apply Kd.R_drew)); exact HO_7.out)); (case aS => exact (below_size (by repeat (first | (with_reducible first | exact HB.out | apply below_alloc | apply pw_below_drewN | apply below_drew1) | exact HB.out)))); (case aL => have := LMc14.out; omega); intro v198 w16 ho hb hg hat; rw [← Ny197.out] at ho; have n0_ := Aside0.mk (hb); have n1_ := Aside0.mk (ho); clear HB; clear HO_7; have HB := n0_; have HO199 := n1_; clear n0_ n1_; (try clear ho); (try clear hb); (try clear hg); (try clear hat)))
            go_roundg kj3
            case measure => have := HK1.out; have := HJ3.out; omega
            case rel => exact ⟨(y197), (ji7), (ji10), (by first | rfl | (simp; done) | (simp only [← hji7] <;> (first | rfl | simp)) | (simp [*]; done)), (by first | rfl | (simp; done) | (simp only [← hji10] <;> (first | rfl | simp)) | (simp [*]; done)), H', ⟨by have := HK1.out; have := HJ3.out; omega⟩, ⟨by (with_reducible repeat (first | apply Kd.R_alloc | apply Kd.R_drewN | apply Kd.R_drew)); exact HO199.out⟩, ⟨by repeat (first | (with_reducible first | exact HB.out | apply below_alloc | apply pw_below_drewN | apply below_drew1) | exact HB.out)⟩⟩
           ·rw [if_neg c14] at H
            exact absurd H (by simp)
          ·rw [if_neg c13] at H
           have c13b0 : ((rd l0 (ji7)) == (rd l1 (ji10))) = false := beq_eq_false_iff_ne.mpr c13
           have c13b1 : ((rd l0 (ji7)) != (rd l1 (ji10))) = true := bne_iff_ne.mpr c13
           by_cases c17 : (ji7) < (l2.length : Int)
           ·rw [if_pos c17] at H
            have c17b0 : decide ((ji7) < (l2.length : Int)) = true := decide_eq_true c17
            clear c17
            replace H := Option.bind_eq_some_iff.mp H
            obtain ⟨t201, A180, H⟩ := H
            replace H : (if 0 ≤ x8_1 then (if x8_1 < (l2.length : Int) then ((band_line_at.f ((rd_T43 l2 x8_1).f0) ((rd_T43 l2 x8_1).f1) (ji10)).bind fun t203 => (if t201 ≤ t203 then (band_back.l0 kj3 l0 l1 l2 x7_1 ji7 x9_1) else (band_back.l0 kj3 l0 l1 l2 x7_1 x8_1 ji10))) else (none)) else (none)) = some r := H
            have A18 := Aside0.mk A180
            clear A180
            by_cases c19 : 0 ≤ x8_1
            ·rw [if_pos c19] at H
             have c19b0 : decide (0 ≤ x8_1) = true := decide_eq_true c19
             clear c19
             by_cases c20 : x8_1 < (l2.length : Int)
             ·rw [if_pos c20] at H
              have c20b0 : decide (x8_1 < (l2.length : Int)) = true := decide_eq_true c20
              clear c20
              replace H := Option.bind_eq_some_iff.mp H
              obtain ⟨t203, A210, H⟩ := H
              replace H : (if t201 ≤ t203 then (band_back.l0 kj3 l0 l1 l2 x7_1 ji7 x9_1) else (band_back.l0 kj3 l0 l1 l2 x7_1 x8_1 ji10)) = some r := H
              have A21 := Aside0.mk A210
              clear A210
              by_cases c22 : t201 ≤ t203
              ·rw [if_pos c22] at H
               have c22b0 : decide (t201 ≤ t203) = true := decide_eq_true c22
               clear c22
               have H' := Aside0.mk H
               clear H
               try go_wp2
               have n0_ := Aside0.mk (Kd.R_drew HO_7.out)
               have n1_ := Aside0.mk (below_drew1 HB.out)
               clear HO_7
               clear HB
               have HO_7 := n0_
               have HB := n1_
               clear n0_ n1_
               have p195 : 0 ≤ ((ji7) : Int) := of_decide_eq_true (by first | (with_reducible assumption) | assumption)
               have q195 : (ji7) < (l0.length : Int) := of_decide_eq_true (by first | (with_reducible assumption) | assumption)
               obtain ⟨ad195, e195, hx195_0⟩ := Kd.at_int HR0.out (ji7) p195 q195
               have hw195_0 := hx195_0
               cases e195
               replace hx195_0 := (HB.out.cell (World.block_lt_of_cell? w _ hx195_0)).trans hx195_0
               replace p195 := eq_true p195
               replace q195 := eq_true q195
               have p196 : 0 ≤ ((ji10) : Int) := of_decide_eq_true (by first | (with_reducible assumption) | assumption)
               have q196 : (ji10) < (l1.length : Int) := of_decide_eq_true (by first | (with_reducible assumption) | assumption)
               obtain ⟨ad196, e196, hx196_0⟩ := Kd.at_int HR1.out (ji10) p196 q196
               have hw196_0 := hx196_0
               cases e196
               replace hx196_0 := (HB.out.cell (World.block_lt_of_cell? w _ hx196_0)).trans hx196_0
               replace p196 := eq_true p196
               replace q196 := eq_true q196
               refine start_ (n := 12) (S := fun w' => w'.cell? (ad195.add ((ji7)).toNat) = some (.int .i64 (rd l0 (ji7))) ∧ w'.cell? (ad196.add ((ji10)).toNat) = some (.int .i64 (rd l1 (ji10)))) (ds := []) #[N,N,N,N,N,N,N,N,N,N,N,N] (by kernel_rfl) rfl rfl ⟨((HB.out.cell (World.block_lt_of_cell? w _ hw195_0)).trans hw195_0), ((HB.out.cell (World.block_lt_of_cell? w _ hw196_0)).trans hw196_0)⟩ (fun hHeld => ?_); refine with_tabW band_back.tab5 band_back.bits5 (fun HT_ HW_ => ?_)
               generalize wc.drew = w23 at HO_7 HB hx195_0 hx196_0 hHeld ⊢
               refine pure_ (i := 0) (N := some 23) (v := ?_) (a' := ?_) #[Y,N,N,N,N,N,N,N,N,N,N,N] rfl rfl (any_of HT_.out (by kernel_rfl)) (fun _ _ _ h => h) (Or.inl ⟨by rfl, ?_⟩) ?_ ?_; rotate_left
               ·intro w'; go_simp; with_reducible rfl
               rotate_left
               ·simp only [Act.put, sA,sB,sC, i64_w, i32_w]; rfl
               refine pure_ (i := 1) (N := some 24) (v := ?_) (a' := ?_) #[Y,Y,N,N,N,N,N,N,N,N,N,N] rfl rfl (any_of HT_.out (by kernel_rfl)) (fun _ _ _ h => h) (Or.inl ⟨by rfl, ?_⟩) ?_ ?_; rotate_left
               ·intro w'; go_simp; with_reducible rfl
               rotate_left
               ·simp only [Act.put, sA,sB,sC, i64_w, i32_w]; rfl
               refine pure_ (i := 2) (N := some 25) (v := ?_) (a' := ?_) #[Y,Y,Y,N,N,N,N,N,N,N,N,N] rfl rfl (any_of HT_.out (by kernel_rfl)) (fun _ _ _ h => h) (Or.inl ⟨by rfl, ?_⟩) ?_ ?_; rotate_left
               ·intro w'; go_simp; with_reducible rfl
               rotate_left
               ·simp only [Act.put, sA,sB,sC, i64_w, i32_w]; rfl
               refine pure_ (i := 3) (N := some 26) (v := ?_) (a' := ?_) #[Y,Y,Y,Y,N,N,N,N,N,N,N,N] rfl rfl (any_of HT_.out (by kernel_rfl)) (fun _ _ _ h => h) (Or.inl ⟨by rfl, ?_⟩) ?_ ?_; rotate_left
               ·intro w'; go_simp; with_reducible rfl
               rotate_left
               ·simp only [Act.put, sA,sB,sC, i64_w, i32_w]; rfl
               refine pure_ (i := 5) (N := some 28) (v := ?_) (a' := ?_) #[Y,Y,Y,Y,N,Y,N,N,N,N,N,N] rfl rfl (any_of HT_.out (by kernel_rfl)) (fun _ _ _ h => h) (Or.inl ⟨by rfl, ?_⟩) ?_ ?_; rotate_left
               ·intro w'; go_simp; with_reducible rfl
               rotate_left
               ·simp only [Act.put, sA,sB,sC, i64_w, i32_w]; rfl
               refine pure_ (i := 6) (N := some 29) (v := ?_) (a' := ?_) #[Y,Y,Y,Y,N,Y,Y,N,N,N,N,N] rfl rfl (any_of HT_.out (by kernel_rfl)) (fun _ _ _ h => h) (Or.inl ⟨by rfl, ?_⟩) ?_ ?_; rotate_left
               ·intro w'; go_simp; with_reducible rfl
               rotate_left
               ·simp only [Act.put, sA,sB,sC, i64_w, i32_w]; rfl
               refine pure_ (i := 7) (N := some 30) (v := ?_) (a' := ?_) #[Y,Y,Y,Y,N,Y,Y,Y,N,N,N,N] rfl rfl (any_of HT_.out (by kernel_rfl)) (fun _ _ _ h => h) (Or.inl ⟨by rfl, ?_⟩) ?_ ?_; rotate_left
               ·intro w'; go_simp; with_reducible rfl
               rotate_left
               ·simp only [Act.put, sA,sB,sC, i64_w, i32_w]; rfl
               refine pure_ (i := 8) (N := some 31) (v := ?_) (a' := ?_) #[Y,Y,Y,Y,N,Y,Y,Y,Y,N,N,N] rfl rfl (any_of HT_.out (by kernel_rfl)) (fun _ _ _ h => h) (Or.inl ⟨by rfl, ?_⟩) ?_ ?_; rotate_left
               ·intro w'; go_simp; with_reducible rfl
               rotate_left
               ·simp only [Act.put, sA,sB,sC, i64_w, i32_w]; rfl
               refine take_ (i := 4) (N := some 27) (v := ?_) (a' := ?_) #[Y,Y,Y,Y,Y,Y,Y,Y,Y,N,N,N] rfl rfl (take_ofW HT_.out HW_.out (by kernel_rfl)) (fun _ _ _ h => h) (Or.inl ⟨by rfl, ?_⟩) hHeld ?_ ?_; rotate_left
               ·rintro w' ⟨s0, s1⟩; go_simp; with_reducible rfl
               rotate_left
               ·simp only [Act.put, sA,sB,sC, i64_w, i32_w]; rfl
               refine take_ (i := 9) (N := some 32) (v := ?_) (a' := ?_) #[Y,Y,Y,Y,Y,Y,Y,Y,Y,Y,N,N] rfl rfl (take_ofW HT_.out HW_.out (by kernel_rfl)) (fun _ _ _ h => h) (Or.inl ⟨by rfl, ?_⟩) hHeld ?_ ?_; rotate_left
               ·rintro w' ⟨s0, s1⟩; go_simp; with_reducible rfl
               rotate_left
               ·simp only [Act.put, sA,sB,sC, i64_w, i32_w]; rfl
               refine pure_ (i := 10) (N := some 33) (v := ?_) (a' := ?_) #[Y,Y,Y,Y,Y,Y,Y,Y,Y,Y,Y,N] rfl rfl (any_of HT_.out (by kernel_rfl)) (fun _ _ _ h => h) (Or.inl ⟨by rfl, ?_⟩) ?_ ?_; rotate_left
               ·intro w'; go_simp; with_reducible rfl
               rotate_left
               ·simp only [Act.put, sA,sB,sC, i64_w, i32_w]; rfl
               refine pure_ (i := 11) (N := some 22) (v := ?_) (a' := ?_) #[Y,Y,Y,Y,Y,Y,Y,Y,Y,Y,Y,Y] rfl rfl (any_of HT_.out (by kernel_rfl)) (fun _ _ _ h => h) (Or.inl ⟨by rfl, ?_⟩) ?_ ?_; rotate_left
               ·intro w'; go_simp; with_reducible rfl
               rotate_left
               ·simp only [Act.put, sA,sB,sC, i64_w, i32_w]; rfl
               refine done_ (done_of HT_.out (by kernel_rfl)) ?_
               try go_wp2
               have n0_ := Aside0.mk (Kd.R_drew HO_7.out)
               have n1_ := Aside0.mk (below_drew1 HB.out)
               clear HO_7
               clear HB
               have HO_7 := n0_
               have HB := n1_
               clear n0_ n1_
               have p200 : 0 ≤ ((ji7) : Int) := of_decide_eq_true (by first | (with_reducible assumption) | assumption)
               have q200 : (ji7) < (l2.length : Int) := of_decide_eq_true (by first | (with_reducible assumption) | assumption)
               obtain ⟨ad200, A200_1, c200_1, e200, hx200_0, hx200_1, hl200_1, hi200_1⟩ := at_T43 HR2.out (ji7) p200 q200
               have hw200_1 := hx200_1
               have hw200_0 := hx200_0
               cases e200
               replace hx200_0 := (HB.out.cell (World.block_lt_of_cell? w _ hx200_0)).trans hx200_0
               replace hx200_1 := (HB.out.cell (World.block_lt_of_cell? w _ hx200_1)).trans hx200_1
               have HR200_1 := Aside0.mk hi200_1
               have HC200_1 := Aside0.mk hl200_1
               clear hi200_1 hl200_1
               replace p200 := eq_true p200
               replace q200 := eq_true q200
               have p202 : 0 ≤ (x8_1 : Int) := of_decide_eq_true (by first | (with_reducible assumption) | assumption)
               have q202 : x8_1 < (l2.length : Int) := of_decide_eq_true (by first | (with_reducible assumption) | assumption)
               obtain ⟨ad202, A202_1, c202_1, e202, hx202_0, hx202_1, hl202_1, hi202_1⟩ := at_T43 HR2.out x8_1 p202 q202
               have hw202_1 := hx202_1
               have hw202_0 := hx202_0
               obtain rfl : ad200 = ad202 := (by injection e202)
               replace hx202_0 := (HB.out.cell (World.block_lt_of_cell? w _ hx202_0)).trans hx202_0
               replace hx202_1 := (HB.out.cell (World.block_lt_of_cell? w _ hx202_1)).trans hx202_1
               have HR202_1 := Aside0.mk hi202_1
               have HC202_1 := Aside0.mk hl202_1
               clear hi202_1 hl202_1
               replace p202 := eq_true p202
               replace q202 := eq_true q202
               refine start_ (n := 16) (S := fun w' => w'.cell? (ad200.add (((ji7)).toNat * 2)) = some (.int .i64 ((rd_T43 l2 (ji7)).f0)) ∧ w'.cell? ⟨(ad200.add (((ji7)).toNat * 2)).block, (ad200.add (((ji7)).toNat * 2)).off + 1, none⟩ = some (.slice A200_1 ((rd_T43 l2 (ji7)).f1).length c200_1) ∧ w'.cell? (ad200.add ((x8_1).toNat * 2)) = some (.int .i64 ((rd_T43 l2 x8_1).f0)) ∧ w'.cell? ⟨(ad200.add ((x8_1).toNat * 2)).block, (ad200.add ((x8_1).toNat * 2)).off + 1, none⟩ = some (.slice A202_1 ((rd_T43 l2 x8_1).f1).length c202_1)) (ds := []) #[N,N,N,N,N,N,N,N,N,N,N,N,N,N,N,N] (by kernel_rfl) rfl rfl ⟨((HB.out.cell (World.block_lt_of_cell? w _ hw200_0)).trans hw200_0), ((HB.out.cell (World.block_lt_of_cell? w _ hw200_1)).trans hw200_1), ((HB.out.cell (World.block_lt_of_cell? w _ hw202_0)).trans hw202_0), ((HB.out.cell (World.block_lt_of_cell? w _ hw202_1)).trans hw202_1)⟩ (fun hHeld => ?_); refine with_tabW band_back.tab8 band_back.bits8 (fun HT_ HW_ => ?_)
               generalize w23.drew = w24 at HO_7 HB HR200_1 HR202_1 hx200_0 hx200_1 hx202_0 hx202_1 hHeld ⊢
               refine pure_ (i := 0) (N := some 47) (v := ?_) (a' := ?_) #[Y,N,N,N,N,N,N,N,N,N,N,N,N,N,N,N] rfl rfl (any_of HT_.out (by kernel_rfl)) (fun _ _ _ h => h) (Or.inl ⟨by rfl, ?_⟩) ?_ ?_; rotate_left
               ·intro w'; go_simp; with_reducible rfl
               rotate_left
               ·simp only [Act.put, sA,sB,sC, i64_w, i32_w]; rfl
               refine pure_ (i := 1) (N := some 48) (v := ?_) (a' := ?_) #[Y,Y,N,N,N,N,N,N,N,N,N,N,N,N,N,N] rfl rfl (any_of HT_.out (by kernel_rfl)) (fun _ _ _ h => h) (Or.inl ⟨by rfl, ?_⟩) ?_ ?_; rotate_left
               ·intro w'; go_simp; with_reducible rfl
               rotate_left
               ·simp only [Act.put, sA,sB,sC, i64_w, i32_w]; rfl
               refine pure_ (i := 2) (N := some 49) (v := ?_) (a' := ?_) #[Y,Y,Y,N,N,N,N,N,N,N,N,N,N,N,N,N] rfl rfl (any_of HT_.out (by kernel_rfl)) (fun _ _ _ h => h) (Or.inl ⟨by rfl, ?_⟩) ?_ ?_; rotate_left
               ·intro w'; go_simp; with_reducible rfl
               rotate_left
               ·simp only [Act.put, sA,sB,sC, i64_w, i32_w]; rfl
               refine pure_ (i := 3) (N := some 50) (v := ?_) (a' := ?_) #[Y,Y,Y,Y,N,N,N,N,N,N,N,N,N,N,N,N] rfl rfl (any_of HT_.out (by kernel_rfl)) (fun _ _ _ h => h) (Or.inl ⟨by rfl, ?_⟩) ?_ ?_; rotate_left
               ·intro w'; go_simp; with_reducible rfl
               rotate_left
               ·simp only [Act.put, sA,sB,sC, i64_w, i32_w]; rfl
               refine pure_ (i := 5) (N := some 52) (v := ?_) (a' := ?_) #[Y,Y,Y,Y,N,Y,N,N,N,N,N,N,N,N,N,N] rfl rfl (any_of HT_.out (by kernel_rfl)) (fun _ _ _ h => h) (Or.inl ⟨by rfl, ?_⟩) ?_ ?_; rotate_left
               ·intro w'; go_simp; with_reducible rfl
               rotate_left
               ·simp only [Act.put, sA,sB,sC, i64_w, i32_w]; rfl
               refine pure_ (i := 7) (N := some 54) (v := ?_) (a' := ?_) #[Y,Y,Y,Y,N,Y,N,Y,N,N,N,N,N,N,N,N] rfl rfl (any_of HT_.out (by kernel_rfl)) (fun _ _ _ h => h) (Or.inl ⟨by rfl, ?_⟩) ?_ ?_; rotate_left
               ·intro w'; go_simp; with_reducible rfl
               rotate_left
               ·simp only [Act.put, sA,sB,sC, i64_w, i32_w]; rfl
               refine pure_ (i := 8) (N := some 55) (v := ?_) (a' := ?_) #[Y,Y,Y,Y,N,Y,N,Y,Y,N,N,N,N,N,N,N] rfl rfl (any_of HT_.out (by kernel_rfl)) (fun _ _ _ h => h) (Or.inl ⟨by rfl, ?_⟩) ?_ ?_; rotate_left
               ·intro w'; go_simp; with_reducible rfl
               rotate_left
               ·simp only [Act.put, sA,sB,sC, i64_w, i32_w]; rfl
               refine pure_ (i := 9) (N := some 56) (v := ?_) (a' := ?_) #[Y,Y,Y,Y,N,Y,N,Y,Y,Y,N,N,N,N,N,N] rfl rfl (any_of HT_.out (by kernel_rfl)) (fun _ _ _ h => h) (Or.inl ⟨by rfl, ?_⟩) ?_ ?_; rotate_left
               ·intro w'; go_simp; with_reducible rfl
               rotate_left
               ·simp only [Act.put, sA,sB,sC, i64_w, i32_w]; rfl
               refine pure_ (i := 11) (N := some 58) (v := ?_) (a' := ?_) #[Y,Y,Y,Y,N,Y,N,Y,Y,Y,N,Y,N,N,N,N] rfl rfl (any_of HT_.out (by kernel_rfl)) (fun _ _ _ h => h) (Or.inl ⟨by rfl, ?_⟩) ?_ ?_; rotate_left
               ·intro w'; go_simp; with_reducible rfl
               rotate_left
               ·simp only [Act.put, sA,sB,sC, i64_w, i32_w]; rfl
               refine pure_ (i := 12) (N := some 59) (v := ?_) (a' := ?_) #[Y,Y,Y,Y,N,Y,N,Y,Y,Y,N,Y,Y,N,N,N] rfl rfl (any_of HT_.out (by kernel_rfl)) (fun _ _ _ h => h) (Or.inl ⟨by rfl, ?_⟩) ?_ ?_; rotate_left
               ·intro w'; go_simp; with_reducible rfl
               rotate_left
               ·simp only [Act.put, sA,sB,sC, i64_w, i32_w]; rfl
               refine take_ (i := 4) (N := some 51) (v := ?_) (a' := ?_) #[Y,Y,Y,Y,Y,Y,N,Y,Y,Y,N,Y,Y,N,N,N] rfl rfl (take_ofW HT_.out HW_.out (by kernel_rfl)) (fun _ _ _ h => h) (Or.inl ⟨by rfl, ?_⟩) hHeld ?_ ?_; rotate_left
               ·rintro w' ⟨s0, s1, s2, s3⟩; go_simp; with_reducible rfl
               rotate_left
               ·simp only [Act.put, sA,sB,sC, i64_w, i32_w]; rfl
               refine take_ (i := 10) (N := some 57) (v := ?_) (a' := ?_) #[Y,Y,Y,Y,Y,Y,N,Y,Y,Y,Y,Y,Y,N,N,N] rfl rfl (take_ofW HT_.out HW_.out (by kernel_rfl)) (fun _ _ _ h => h) (Or.inl ⟨by rfl, ?_⟩) hHeld ?_ ?_; rotate_left
               ·rintro w' ⟨s0, s1, s2, s3⟩; go_simp; with_reducible rfl
               rotate_left
               ·simp only [Act.put, sA,sB,sC, i64_w, i32_w]; rfl
               refine one_ (i := 6) (N := some 53) #[Y,Y,Y,Y,Y,Y,Y,Y,Y,Y,Y,Y,Y,N,N,N] rfl rfl (one_of HT_.out (by kernel_rfl)) (by decide) (fun K hK => ?_)
               refine goes_ Try.func23 (by kernel_rfl) rfl #[.agg #[.int .i64 ((rd_T43 l2 (ji7)).f0), .slice A200_1 ((rd_T43 l2 (ji7)).f1).length c200_1], .int .i64 x9_1] (by rfl) rfl rfl (by (try simp only [List.map_toArray, List.map_cons, List.map_nil]); first | done | (simp only [hji7]; rfl) | rfl | (simp only [List.length_drop, List.length_take]; rfl)) ?_
               with_reducible refine (band_line_at.calls ((rd_T43 l2 (ji7)).f0) _ _ ((rd_T43 l2 (ji7)).f1) x9_1 t201 _ ?side1 ?side2 A18.out).mono ?_
               (case side1 => repeat (first | exact (Kd.C_below HR200_1.out HB.out) | (with_reducible refine Kd.C_alloc ?_ _) | (with_reducible refine Kd.C_drewN ?_ _) | (with_reducible refine Kd.C_drew ?_)))
               (case side2 => exact HC200_1.out)
               rintro e w25 ⟨rfl, hb⟩
               refine ⟨_, rfl, ?_⟩
               have n0_ := Aside0.mk (Kd.R_below (by (with_reducible repeat (first | apply Kd.R_alloc | apply Kd.R_drewN | apply Kd.R_drew)); exact HO_7.out) hb)
               have n1_ := Aside0.mk (below_step (by repeat (first | (with_reducible first | exact HB.out | apply below_alloc | apply pw_below_drewN | apply below_drew1) | exact HB.out)) hb)
               clear HO_7
               clear HB
               have HO_7 := n0_
               have HB := n1_
               clear n0_ n1_
               (try clear hb)
               (try clear hb2)
               (try clear hk)
               (try clear hi)
               refine hK.out _ _ ⟨((HB.out.cell (World.block_lt_of_cell? w _ hw200_0)).trans hw200_0), ((HB.out.cell (World.block_lt_of_cell? w _ hw200_1)).trans hw200_1), ((HB.out.cell (World.block_lt_of_cell? w _ hw202_0)).trans hw202_0), ((HB.out.cell (World.block_lt_of_cell? w _ hw202_1)).trans hw202_1)⟩ (fun hHeld => ?_)
               clear hK K
               refine norm_ (a' := ?_) ?_ ?_
               rotate_left
               ·show Act.put _ (some 53) _ = _
                simp only [Act.put, sA,sB,sC, i64_w, i32_w]; rfl
               refine one_ (i := 13) (N := some 60) #[Y,Y,Y,Y,Y,Y,Y,Y,Y,Y,Y,Y,Y,Y,N,N] rfl rfl (one_of HT_.out (by kernel_rfl)) (by decide) (fun K hK => ?_)
               refine goes_ Try.func23 (by kernel_rfl) rfl #[.agg #[.int .i64 ((rd_T43 l2 x8_1).f0), .slice A202_1 ((rd_T43 l2 x8_1).f1).length c202_1], .int .i64 ji10] (by rfl) rfl rfl (by (try simp only [List.map_toArray, List.map_cons, List.map_nil]); first | done | (simp only [hji10]; rfl) | rfl | (simp only [List.length_drop, List.length_take]; rfl)) ?_
               with_reducible refine (band_line_at.calls ((rd_T43 l2 x8_1).f0) _ _ ((rd_T43 l2 x8_1).f1) ji10 t203 _ ?side1 ?side2 A21.out).mono ?_
               (case side1 => repeat (first | exact (Kd.C_below HR202_1.out HB.out) | (with_reducible refine Kd.C_alloc ?_ _) | (with_reducible refine Kd.C_drewN ?_ _) | (with_reducible refine Kd.C_drew ?_)))
               (case side2 => exact HC202_1.out)
               rintro e w26 ⟨rfl, hb⟩
               refine ⟨_, rfl, ?_⟩
               have n0_ := Aside0.mk (Kd.R_below (by (with_reducible repeat (first | apply Kd.R_alloc | apply Kd.R_drewN | apply Kd.R_drew)); exact HO_7.out) hb)
               have n1_ := Aside0.mk (below_step (by repeat (first | (with_reducible first | exact HB.out | apply below_alloc | apply pw_below_drewN | apply below_drew1) | exact HB.out)) hb)
               clear HO_7
               clear HB
               have HO_7 := n0_
               have HB := n1_
               clear n0_ n1_
               (try clear hb)
               (try clear hb2)
               (try clear hk)
               (try clear hi)
               refine hK.out _ _ ⟨((HB.out.cell (World.block_lt_of_cell? w _ hw200_0)).trans hw200_0), ((HB.out.cell (World.block_lt_of_cell? w _ hw200_1)).trans hw200_1), ((HB.out.cell (World.block_lt_of_cell? w _ hw202_0)).trans hw202_0), ((HB.out.cell (World.block_lt_of_cell? w _ hw202_1)).trans hw202_1)⟩ (fun hHeld => ?_)
               clear hK K
               refine norm_ (a' := ?_) ?_ ?_
               rotate_left
               ·show Act.put _ (some 60) _ = _
                simp only [Act.put, sA,sB,sC, i64_w, i32_w]; rfl
               refine pure_ (i := 14) (N := some 61) (v := ?_) (a' := ?_) #[Y,Y,Y,Y,Y,Y,Y,Y,Y,Y,Y,Y,Y,Y,Y,N] rfl rfl (any_of HT_.out (by kernel_rfl)) (fun _ _ _ h => h) (Or.inl ⟨by rfl, ?_⟩) ?_ ?_; rotate_left
               ·intro w'; go_simp; with_reducible rfl
               rotate_left
               ·simp only [Act.put, sA,sB,sC, i64_w, i32_w]; rfl
               refine pure_ (i := 15) (N := some 46) (v := ?_) (a' := ?_) #[Y,Y,Y,Y,Y,Y,Y,Y,Y,Y,Y,Y,Y,Y,Y,Y] rfl rfl (any_of HT_.out (by kernel_rfl)) (fun _ _ _ h => h) (Or.inl ⟨by rfl, ?_⟩) ?_ ?_; rotate_left
               ·intro w'; go_simp; with_reducible rfl
               rotate_left
               ·simp only [Act.put, sA,sB,sC, i64_w, i32_w]; rfl
               refine done_ (done_of HT_.out (by kernel_rfl)) ?_
               try go_wp2
               go_roundg kj3
               case measure => have := HK1.out; have := HJ3.out; omega
               case rel => exact ⟨(x7_1), (ji7), (x9_1), (by first | rfl | (simp; done) | (simp only [← hji7] <;> (first | rfl | simp)) | (simp [*]; done)), (by first | rfl | (simp; done) | (simp [*]; done)), H', ⟨by have := HK1.out; have := HJ3.out; omega⟩, ⟨by (with_reducible repeat (first | apply Kd.R_alloc | apply Kd.R_drewN | apply Kd.R_drew)); exact HO_7.out⟩, ⟨by repeat (first | (with_reducible first | exact HB.out | apply below_alloc | apply pw_below_drewN | apply below_drew1) | exact HB.out)⟩⟩
              ·rw [if_neg c22] at H
               have c22b0 : decide (t201 ≤ t203) = false := decide_eq_false c22
               clear c22
               have H' := Aside0.mk H
               clear H
               try go_wp2
               have n0_ := Aside0.mk (Kd.R_drew HO_7.out)
               have n1_ := Aside0.mk (below_drew1 HB.out)
               clear HO_7
               clear HB
               have HO_7 := n0_
               have HB := n1_
               clear n0_ n1_
               have p195 : 0 ≤ ((ji7) : Int) := of_decide_eq_true (by first | (with_reducible assumption) | assumption)
               have q195 : (ji7) < (l0.length : Int) := of_decide_eq_true (by first | (with_reducible assumption) | assumption)
               obtain ⟨ad195, e195, hx195_0⟩ := Kd.at_int HR0.out (ji7) p195 q195
               have hw195_0 := hx195_0
               cases e195
               replace hx195_0 := (HB.out.cell (World.block_lt_of_cell? w _ hx195_0)).trans hx195_0
               replace p195 := eq_true p195
               replace q195 := eq_true q195
               have p196 : 0 ≤ ((ji10) : Int) := of_decide_eq_true (by first | (with_reducible assumption) | assumption)
               have q196 : (ji10) < (l1.length : Int) := of_decide_eq_true (by first | (with_reducible assumption) | assumption)
               obtain ⟨ad196, e196, hx196_0⟩ := Kd.at_int HR1.out (ji10) p196 q196
               have hw196_0 := hx196_0
               cases e196
               replace hx196_0 := (HB.out.cell (World.block_lt_of_cell? w _ hx196_0)).trans hx196_0
               replace p196 := eq_true p196
               replace q196 := eq_true q196
               refine start_ (n := 12) (S := fun w' => w'.cell? (ad195.add ((ji7)).toNat) = some (.int .i64 (rd l0 (ji7))) ∧ w'.cell? (ad196.add ((ji10)).toNat) = some (.int .i64 (rd l1 (ji10)))) (ds := []) #[N,N,N,N,N,N,N,N,N,N,N,N] (by kernel_rfl) rfl rfl ⟨((HB.out.cell (World.block_lt_of_cell? w _ hw195_0)).trans hw195_0), ((HB.out.cell (World.block_lt_of_cell? w _ hw196_0)).trans hw196_0)⟩ (fun hHeld => ?_); refine with_tabW band_back.tab5 band_back.bits5 (fun HT_ HW_ => ?_)
               generalize wc.drew = w27 at HO_7 HB hx195_0 hx196_0 hHeld ⊢
               refine pure_ (i := 0) (N := some 23) (v := ?_) (a' := ?_) #[Y,N,N,N,N,N,N,N,N,N,N,N] rfl rfl (any_of HT_.out (by kernel_rfl)) (fun _ _ _ h => h) (Or.inl ⟨by rfl, ?_⟩) ?_ ?_; rotate_left
               ·intro w'; go_simp; with_reducible rfl
               rotate_left
               ·simp only [Act.put, sA,sB,sC, i64_w, i32_w]; rfl
               refine pure_ (i := 1) (N := some 24) (v := ?_) (a' := ?_) #[Y,Y,N,N,N,N,N,N,N,N,N,N] rfl rfl (any_of HT_.out (by kernel_rfl)) (fun _ _ _ h => h) (Or.inl ⟨by rfl, ?_⟩) ?_ ?_; rotate_left
               ·intro w'; go_simp; with_reducible rfl
               rotate_left
               ·simp only [Act.put, sA,sB,sC, i64_w, i32_w]; rfl
               refine pure_ (i := 2) (N := some 25) (v := ?_) (a' := ?_) #[Y,Y,Y,N,N,N,N,N,N,N,N,N] rfl rfl (any_of HT_.out (by kernel_rfl)) (fun _ _ _ h => h) (Or.inl ⟨by rfl, ?_⟩) ?_ ?_; rotate_left
               ·intro w'; go_simp; with_reducible rfl
               rotate_left
               ·simp only [Act.put, sA,sB,sC, i64_w, i32_w]; rfl
               refine pure_ (i := 3) (N := some 26) (v := ?_) (a' := ?_) #[Y,Y,Y,Y,N,N,N,N,N,N,N,N] rfl rfl (any_of HT_.out (by kernel_rfl)) (fun _ _ _ h => h) (Or.inl ⟨by rfl, ?_⟩) ?_ ?_; rotate_left
               ·intro w'; go_simp; with_reducible rfl
               rotate_left
               ·simp only [Act.put, sA,sB,sC, i64_w, i32_w]; rfl
               refine pure_ (i := 5) (N := some 28) (v := ?_) (a' := ?_) #[Y,Y,Y,Y,N,Y,N,N,N,N,N,N] rfl rfl (any_of HT_.out (by kernel_rfl)) (fun _ _ _ h => h) (Or.inl ⟨by rfl, ?_⟩) ?_ ?_; rotate_left
               ·intro w'; go_simp; with_reducible rfl
               rotate_left
               ·simp only [Act.put, sA,sB,sC, i64_w, i32_w]; rfl
               refine pure_ (i := 6) (N := some 29) (v := ?_) (a' := ?_) #[Y,Y,Y,Y,N,Y,Y,N,N,N,N,N] rfl rfl (any_of HT_.out (by kernel_rfl)) (fun _ _ _ h => h) (Or.inl ⟨by rfl, ?_⟩) ?_ ?_; rotate_left
               ·intro w'; go_simp; with_reducible rfl
               rotate_left
               ·simp only [Act.put, sA,sB,sC, i64_w, i32_w]; rfl
               refine pure_ (i := 7) (N := some 30) (v := ?_) (a' := ?_) #[Y,Y,Y,Y,N,Y,Y,Y,N,N,N,N] rfl rfl (any_of HT_.out (by kernel_rfl)) (fun _ _ _ h => h) (Or.inl ⟨by rfl, ?_⟩) ?_ ?_; rotate_left
               ·intro w'; go_simp; with_reducible rfl
               rotate_left
               ·simp only [Act.put, sA,sB,sC, i64_w, i32_w]; rfl
               refine pure_ (i := 8) (N := some 31) (v := ?_) (a' := ?_) #[Y,Y,Y,Y,N,Y,Y,Y,Y,N,N,N] rfl rfl (any_of HT_.out (by kernel_rfl)) (fun _ _ _ h => h) (Or.inl ⟨by rfl, ?_⟩) ?_ ?_; rotate_left
               ·intro w'; go_simp; with_reducible rfl
               rotate_left
               ·simp only [Act.put, sA,sB,sC, i64_w, i32_w]; rfl
               refine take_ (i := 4) (N := some 27) (v := ?_) (a' := ?_) #[Y,Y,Y,Y,Y,Y,Y,Y,Y,N,N,N] rfl rfl (take_ofW HT_.out HW_.out (by kernel_rfl)) (fun _ _ _ h => h) (Or.inl ⟨by rfl, ?_⟩) hHeld ?_ ?_; rotate_left
               ·rintro w' ⟨s0, s1⟩; go_simp; with_reducible rfl
               rotate_left
               ·simp only [Act.put, sA,sB,sC, i64_w, i32_w]; rfl
               refine take_ (i := 9) (N := some 32) (v := ?_) (a' := ?_) #[Y,Y,Y,Y,Y,Y,Y,Y,Y,Y,N,N] rfl rfl (take_ofW HT_.out HW_.out (by kernel_rfl)) (fun _ _ _ h => h) (Or.inl ⟨by rfl, ?_⟩) hHeld ?_ ?_; rotate_left
               ·rintro w' ⟨s0, s1⟩; go_simp; with_reducible rfl
               rotate_left
               ·simp only [Act.put, sA,sB,sC, i64_w, i32_w]; rfl
               refine pure_ (i := 10) (N := some 33) (v := ?_) (a' := ?_) #[Y,Y,Y,Y,Y,Y,Y,Y,Y,Y,Y,N] rfl rfl (any_of HT_.out (by kernel_rfl)) (fun _ _ _ h => h) (Or.inl ⟨by rfl, ?_⟩) ?_ ?_; rotate_left
               ·intro w'; go_simp; with_reducible rfl
               rotate_left
               ·simp only [Act.put, sA,sB,sC, i64_w, i32_w]; rfl
               refine pure_ (i := 11) (N := some 22) (v := ?_) (a' := ?_) #[Y,Y,Y,Y,Y,Y,Y,Y,Y,Y,Y,Y] rfl rfl (any_of HT_.out (by kernel_rfl)) (fun _ _ _ h => h) (Or.inl ⟨by rfl, ?_⟩) ?_ ?_; rotate_left
               ·intro w'; go_simp; with_reducible rfl
               rotate_left
               ·simp only [Act.put, sA,sB,sC, i64_w, i32_w]; rfl
               refine done_ (done_of HT_.out (by kernel_rfl)) ?_
               try go_wp2
               have n0_ := Aside0.mk (Kd.R_drew HO_7.out)
               have n1_ := Aside0.mk (below_drew1 HB.out)
               clear HO_7
               clear HB
               have HO_7 := n0_
               have HB := n1_
               clear n0_ n1_
               have p200 : 0 ≤ ((ji7) : Int) := of_decide_eq_true (by first | (with_reducible assumption) | assumption)
               have q200 : (ji7) < (l2.length : Int) := of_decide_eq_true (by first | (with_reducible assumption) | assumption)
               obtain ⟨ad200, A200_1, c200_1, e200, hx200_0, hx200_1, hl200_1, hi200_1⟩ := at_T43 HR2.out (ji7) p200 q200
               have hw200_1 := hx200_1
               have hw200_0 := hx200_0
               cases e200
               replace hx200_0 := (HB.out.cell (World.block_lt_of_cell? w _ hx200_0)).trans hx200_0
               replace hx200_1 := (HB.out.cell (World.block_lt_of_cell? w _ hx200_1)).trans hx200_1
               have HR200_1 := Aside0.mk hi200_1
               have HC200_1 := Aside0.mk hl200_1
               clear hi200_1 hl200_1
               replace p200 := eq_true p200
               replace q200 := eq_true q200
               have p202 : 0 ≤ (x8_1 : Int) := of_decide_eq_true (by first | (with_reducible assumption) | assumption)
               have q202 : x8_1 < (l2.length : Int) := of_decide_eq_true (by first | (with_reducible assumption) | assumption)
               obtain ⟨ad202, A202_1, c202_1, e202, hx202_0, hx202_1, hl202_1, hi202_1⟩ := at_T43 HR2.out x8_1 p202 q202
               have hw202_1 := hx202_1
               have hw202_0 := hx202_0
               obtain rfl : ad200 = ad202 := (by injection e202)
               replace hx202_0 := (HB.out.cell (World.block_lt_of_cell? w _ hx202_0)).trans hx202_0
               replace hx202_1 := (HB.out.cell (World.block_lt_of_cell? w _ hx202_1)).trans hx202_1
               have HR202_1 := Aside0.mk hi202_1
               have HC202_1 := Aside0.mk hl202_1
               clear hi202_1 hl202_1
               replace p202 := eq_true p202
               replace q202 := eq_true q202
               refine start_ (n := 16) (S := fun w' => w'.cell? (ad200.add (((ji7)).toNat * 2)) = some (.int .i64 ((rd_T43 l2 (ji7)).f0)) ∧ w'.cell? ⟨(ad200.add (((ji7)).toNat * 2)).block, (ad200.add (((ji7)).toNat * 2)).off + 1, none⟩ = some (.slice A200_1 ((rd_T43 l2 (ji7)).f1).length c200_1) ∧ w'.cell? (ad200.add ((x8_1).toNat * 2)) = some (.int .i64 ((rd_T43 l2 x8_1).f0)) ∧ w'.cell? ⟨(ad200.add ((x8_1).toNat * 2)).block, (ad200.add ((x8_1).toNat * 2)).off + 1, none⟩ = some (.slice A202_1 ((rd_T43 l2 x8_1).f1).length c202_1)) (ds := []) #[N,N,N,N,N,N,N,N,N,N,N,N,N,N,N,N] (by kernel_rfl) rfl rfl ⟨((HB.out.cell (World.block_lt_of_cell? w _ hw200_0)).trans hw200_0), ((HB.out.cell (World.block_lt_of_cell? w _ hw200_1)).trans hw200_1), ((HB.out.cell (World.block_lt_of_cell? w _ hw202_0)).trans hw202_0), ((HB.out.cell (World.block_lt_of_cell? w _ hw202_1)).trans hw202_1)⟩ (fun hHeld => ?_); refine with_tabW band_back.tab8 band_back.bits8 (fun HT_ HW_ => ?_)
               generalize w27.drew = w28 at HO_7 HB HR200_1 HR202_1 hx200_0 hx200_1 hx202_0 hx202_1 hHeld ⊢
               refine pure_ (i := 0) (N := some 47) (v := ?_) (a' := ?_) #[Y,N,N,N,N,N,N,N,N,N,N,N,N,N,N,N] rfl rfl (any_of HT_.out (by kernel_rfl)) (fun _ _ _ h => h) (Or.inl ⟨by rfl, ?_⟩) ?_ ?_; rotate_left
               ·intro w'; go_simp; with_reducible rfl
               rotate_left
               ·simp only [Act.put, sA,sB,sC, i64_w, i32_w]; rfl
               refine pure_ (i := 1) (N := some 48) (v := ?_) (a' := ?_) #[Y,Y,N,N,N,N,N,N,N,N,N,N,N,N,N,N] rfl rfl (any_of HT_.out (by kernel_rfl)) (fun _ _ _ h => h) (Or.inl ⟨by rfl, ?_⟩) ?_ ?_; rotate_left
               ·intro w'; go_simp; with_reducible rfl
               rotate_left
               ·simp only [Act.put, sA,sB,sC, i64_w, i32_w]; rfl
               refine pure_ (i := 2) (N := some 49) (v := ?_) (a' := ?_) #[Y,Y,Y,N,N,N,N,N,N,N,N,N,N,N,N,N] rfl rfl (any_of HT_.out (by kernel_rfl)) (fun _ _ _ h => h) (Or.inl ⟨by rfl, ?_⟩) ?_ ?_; rotate_left
               ·intro w'; go_simp; with_reducible rfl
               rotate_left
               ·simp only [Act.put, sA,sB,sC, i64_w, i32_w]; rfl
               refine pure_ (i := 3) (N := some 50) (v := ?_) (a' := ?_) #[Y,Y,Y,Y,N,N,N,N,N,N,N,N,N,N,N,N] rfl rfl (any_of HT_.out (by kernel_rfl)) (fun _ _ _ h => h) (Or.inl ⟨by rfl, ?_⟩) ?_ ?_; rotate_left
               ·intro w'; go_simp; with_reducible rfl
               rotate_left
               ·simp only [Act.put, sA,sB,sC, i64_w, i32_w]; rfl
               refine pure_ (i := 5) (N := some 52) (v := ?_) (a' := ?_) #[Y,Y,Y,Y,N,Y,N,N,N,N,N,N,N,N,N,N] rfl rfl (any_of HT_.out (by kernel_rfl)) (fun _ _ _ h => h) (Or.inl ⟨by rfl, ?_⟩) ?_ ?_; rotate_left
               ·intro w'; go_simp; with_reducible rfl
               rotate_left
               ·simp only [Act.put, sA,sB,sC, i64_w, i32_w]; rfl
               refine pure_ (i := 7) (N := some 54) (v := ?_) (a' := ?_) #[Y,Y,Y,Y,N,Y,N,Y,N,N,N,N,N,N,N,N] rfl rfl (any_of HT_.out (by kernel_rfl)) (fun _ _ _ h => h) (Or.inl ⟨by rfl, ?_⟩) ?_ ?_; rotate_left
               ·intro w'; go_simp; with_reducible rfl
               rotate_left
               ·simp only [Act.put, sA,sB,sC, i64_w, i32_w]; rfl
               refine pure_ (i := 8) (N := some 55) (v := ?_) (a' := ?_) #[Y,Y,Y,Y,N,Y,N,Y,Y,N,N,N,N,N,N,N] rfl rfl (any_of HT_.out (by kernel_rfl)) (fun _ _ _ h => h) (Or.inl ⟨by rfl, ?_⟩) ?_ ?_; rotate_left
               ·intro w'; go_simp; with_reducible rfl
               rotate_left
               ·simp only [Act.put, sA,sB,sC, i64_w, i32_w]; rfl
               refine pure_ (i := 9) (N := some 56) (v := ?_) (a' := ?_) #[Y,Y,Y,Y,N,Y,N,Y,Y,Y,N,N,N,N,N,N] rfl rfl (any_of HT_.out (by kernel_rfl)) (fun _ _ _ h => h) (Or.inl ⟨by rfl, ?_⟩) ?_ ?_; rotate_left
               ·intro w'; go_simp; with_reducible rfl
               rotate_left
               ·simp only [Act.put, sA,sB,sC, i64_w, i32_w]; rfl
               refine pure_ (i := 11) (N := some 58) (v := ?_) (a' := ?_) #[Y,Y,Y,Y,N,Y,N,Y,Y,Y,N,Y,N,N,N,N] rfl rfl (any_of HT_.out (by kernel_rfl)) (fun _ _ _ h => h) (Or.inl ⟨by rfl, ?_⟩) ?_ ?_; rotate_left
               ·intro w'; go_simp; with_reducible rfl
               rotate_left
               ·simp only [Act.put, sA,sB,sC, i64_w, i32_w]; rfl
               refine pure_ (i := 12) (N := some 59) (v := ?_) (a' := ?_) #[Y,Y,Y,Y,N,Y,N,Y,Y,Y,N,Y,Y,N,N,N] rfl rfl (any_of HT_.out (by kernel_rfl)) (fun _ _ _ h => h) (Or.inl ⟨by rfl, ?_⟩) ?_ ?_; rotate_left
               ·intro w'; go_simp; with_reducible rfl
               rotate_left
               ·simp only [Act.put, sA,sB,sC, i64_w, i32_w]; rfl
               refine take_ (i := 4) (N := some 51) (v := ?_) (a' := ?_) #[Y,Y,Y,Y,Y,Y,N,Y,Y,Y,N,Y,Y,N,N,N] rfl rfl (take_ofW HT_.out HW_.out (by kernel_rfl)) (fun _ _ _ h => h) (Or.inl ⟨by rfl, ?_⟩) hHeld ?_ ?_; rotate_left
               ·rintro w' ⟨s0, s1, s2, s3⟩; go_simp; with_reducible rfl
               rotate_left
               ·simp only [Act.put, sA,sB,sC, i64_w, i32_w]; rfl
               refine take_ (i := 10) (N := some 57) (v := ?_) (a' := ?_) #[Y,Y,Y,Y,Y,Y,N,Y,Y,Y,Y,Y,Y,N,N,N] rfl rfl (take_ofW HT_.out HW_.out (by kernel_rfl)) (fun _ _ _ h => h) (Or.inl ⟨by rfl, ?_⟩) hHeld ?_ ?_; rotate_left
               ·rintro w' ⟨s0, s1, s2, s3⟩; go_simp; with_reducible rfl
               rotate_left
               ·simp only [Act.put, sA,sB,sC, i64_w, i32_w]; rfl
               refine one_ (i := 6) (N := some 53) #[Y,Y,Y,Y,Y,Y,Y,Y,Y,Y,Y,Y,Y,N,N,N] rfl rfl (one_of HT_.out (by kernel_rfl)) (by decide) (fun K hK => ?_)
               refine goes_ Try.func23 (by kernel_rfl) rfl #[.agg #[.int .i64 ((rd_T43 l2 (ji7)).f0), .slice A200_1 ((rd_T43 l2 (ji7)).f1).length c200_1], .int .i64 x9_1] (by rfl) rfl rfl (by (try simp only [List.map_toArray, List.map_cons, List.map_nil]); first | done | (simp only [hji7]; rfl) | rfl | (simp only [List.length_drop, List.length_take]; rfl)) ?_
               with_reducible refine (band_line_at.calls ((rd_T43 l2 (ji7)).f0) _ _ ((rd_T43 l2 (ji7)).f1) x9_1 t201 _ ?side1 ?side2 A18.out).mono ?_
               (case side1 => repeat (first | exact (Kd.C_below HR200_1.out HB.out) | (with_reducible refine Kd.C_alloc ?_ _) | (with_reducible refine Kd.C_drewN ?_ _) | (with_reducible refine Kd.C_drew ?_)))
               (case side2 => exact HC200_1.out)
               rintro e w29 ⟨rfl, hb⟩
               refine ⟨_, rfl, ?_⟩
               have n0_ := Aside0.mk (Kd.R_below (by (with_reducible repeat (first | apply Kd.R_alloc | apply Kd.R_drewN | apply Kd.R_drew)); exact HO_7.out) hb)
               have n1_ := Aside0.mk (below_step (by repeat (first | (with_reducible first | exact HB.out | apply below_alloc | apply pw_below_drewN | apply below_drew1) | exact HB.out)) hb)
               clear HO_7
               clear HB
               have HO_7 := n0_
               have HB := n1_
               clear n0_ n1_
               (try clear hb)
               (try clear hb2)
               (try clear hk)
               (try clear hi)
               refine hK.out _ _ ⟨((HB.out.cell (World.block_lt_of_cell? w _ hw200_0)).trans hw200_0), ((HB.out.cell (World.block_lt_of_cell? w _ hw200_1)).trans hw200_1), ((HB.out.cell (World.block_lt_of_cell? w _ hw202_0)).trans hw202_0), ((HB.out.cell (World.block_lt_of_cell? w _ hw202_1)).trans hw202_1)⟩ (fun hHeld => ?_)
               clear hK K
               refine norm_ (a' := ?_) ?_ ?_
               rotate_left
               ·show Act.put _ (some 53) _ = _
                simp only [Act.put, sA,sB,sC, i64_w, i32_w]; rfl
               refine one_ (i := 13) (N := some 60) #[Y,Y,Y,Y,Y,Y,Y,Y,Y,Y,Y,Y,Y,Y,N,N] rfl rfl (one_of HT_.out (by kernel_rfl)) (by decide) (fun K hK => ?_)
               refine goes_ Try.func23 (by kernel_rfl) rfl #[.agg #[.int .i64 ((rd_T43 l2 x8_1).f0), .slice A202_1 ((rd_T43 l2 x8_1).f1).length c202_1], .int .i64 ji10] (by rfl) rfl rfl (by (try simp only [List.map_toArray, List.map_cons, List.map_nil]); first | done | (simp only [hji10]; rfl) | rfl | (simp only [List.length_drop, List.length_take]; rfl)) ?_
               with_reducible refine (band_line_at.calls ((rd_T43 l2 x8_1).f0) _ _ ((rd_T43 l2 x8_1).f1) ji10 t203 _ ?side1 ?side2 A21.out).mono ?_
               (case side1 => repeat (first | exact (Kd.C_below HR202_1.out HB.out) | (with_reducible refine Kd.C_alloc ?_ _) | (with_reducible refine Kd.C_drewN ?_ _) | (with_reducible refine Kd.C_drew ?_)))
               (case side2 => exact HC202_1.out)
               rintro e w30 ⟨rfl, hb⟩
               refine ⟨_, rfl, ?_⟩
               have n0_ := Aside0.mk (Kd.R_below (by (with_reducible repeat (first | apply Kd.R_alloc | apply Kd.R_drewN | apply Kd.R_drew)); exact HO_7.out) hb)
               have n1_ := Aside0.mk (below_step (by repeat (first | (with_reducible first | exact HB.out | apply below_alloc | apply pw_below_drewN | apply below_drew1) | exact HB.out)) hb)
               clear HO_7
               clear HB
               have HO_7 := n0_
               have HB := n1_
               clear n0_ n1_
               (try clear hb)
               (try clear hb2)
               (try clear hk)
               (try clear hi)
               refine hK.out _ _ ⟨((HB.out.cell (World.block_lt_of_cell? w _ hw200_0)).trans hw200_0), ((HB.out.cell (World.block_lt_of_cell? w _ hw200_1)).trans hw200_1), ((HB.out.cell (World.block_lt_of_cell? w _ hw202_0)).trans hw202_0), ((HB.out.cell (World.block_lt_of_cell? w _ hw202_1)).trans hw202_1)⟩ (fun hHeld => ?_)
               clear hK K
               refine norm_ (a' := ?_) ?_ ?_
               rotate_left
               ·show Act.put _ (some 60) _ = _
                simp only [Act.put, sA,sB,sC, i64_w, i32_w]; rfl
               refine pure_ (i := 14) (N := some 61) (v := ?_) (a' := ?_) #[Y,Y,Y,Y,Y,Y,Y,Y,Y,Y,Y,Y,Y,Y,Y,N] rfl rfl (any_of HT_.out (by kernel_rfl)) (fun _ _ _ h => h) (Or.inl ⟨by rfl, ?_⟩) ?_ ?_; rotate_left
               ·intro w'; go_simp; with_reducible rfl
               rotate_left
               ·simp only [Act.put, sA,sB,sC, i64_w, i32_w]; rfl
               refine pure_ (i := 15) (N := some 46) (v := ?_) (a' := ?_) #[Y,Y,Y,Y,Y,Y,Y,Y,Y,Y,Y,Y,Y,Y,Y,Y] rfl rfl (any_of HT_.out (by kernel_rfl)) (fun _ _ _ h => h) (Or.inl ⟨by rfl, ?_⟩) ?_ ?_; rotate_left
               ·intro w'; go_simp; with_reducible rfl
               rotate_left
               ·simp only [Act.put, sA,sB,sC, i64_w, i32_w]; rfl
               refine done_ (done_of HT_.out (by kernel_rfl)) ?_
               try go_wp2
               go_roundg kj3
               case measure => have := HK1.out; have := HJ3.out; omega
               case rel => exact ⟨(x7_1), (x8_1), (ji10), (by first | rfl | (simp; done) | (simp [*]; done)), (by first | rfl | (simp; done) | (simp only [← hji10] <;> (first | rfl | simp)) | (simp [*]; done)), H', ⟨by have := HK1.out; have := HJ3.out; omega⟩, ⟨by (with_reducible repeat (first | apply Kd.R_alloc | apply Kd.R_drewN | apply Kd.R_drew)); exact HO_7.out⟩, ⟨by repeat (first | (with_reducible first | exact HB.out | apply below_alloc | apply pw_below_drewN | apply below_drew1) | exact HB.out)⟩⟩
             ·rw [if_neg c20] at H
              exact absurd H (by simp)
            ·rw [if_neg c19] at H
             exact absurd H (by simp)
           ·rw [if_neg c17] at H
            exact absurd H (by simp)
         ·rw [if_neg c12] at H
          exact absurd H (by simp)
        ·rw [if_neg c11] at H
         exact absurd H (by simp)
       ·rw [if_neg c9] at H
        exact absurd H (by simp)
      ·rw [if_neg c8] at H
       exact absurd H (by simp)
     ·replace c6 := Bool.eq_false_iff.mpr c6
      subst c6
      have H1 : ((api_Pair.f kj3 x7_1).bind fun t194 => (some t194)) = some r := by rw [if_neg (show ¬ (false = true) by decide)] at H; exact H
      clear H
      have H := H1
      clear H1
      replace H := Option.bind_eq_some_iff.mp H
      obtain ⟨t194, A310, H⟩ := H
      replace H : (some t194) = some r := H
      have A31 := Aside0.mk A310
      clear A310
      obtain rfl := Option.some.inj H
      obtain ⟨Ao32, co32, eo32⟩ := Kd.R_slice HO_7.out
      subst eo32
      go_wp2_with (first | ((first | (with_reducible refine gate_callee (f := 26) rfl ?_); refine goesL_ (some 65) rfl rfl Try.func26 (by kernel_rfl) rfl #[.slice Ao32 x7_1.length co32] rfl (by (try simp only [List.map_toArray, List.map_cons, List.map_nil]); first | done | rfl | (simp only [List.length_drop, List.length_take]; rfl)) ?_ | go_at_call 26); (with_reducible refine (api_Pair.calls kj3 (fun k_ => some k_ = (.slice Ao32 x7_1.length co32 : Value).ownBlock) (.slice Ao32 x7_1.length co32) x7_1 t194 w _ ?side1 ?side2 A31.out).mono ?_); (case side1 => repeat (first | (with_reducible first | exact HB.out | apply below_alloc | apply pw_below_drewN | apply below_drew1) | exact HB.out)); (case side2 => exact Kd.R_tight rfl HO_7.out); rintro e w33 ⟨rfl, hy0, hb, hkp⟩; (try refine ⟨_, rfl, ?_⟩); have n0_ := Aside0.mk (Kd.R_reok rfl hy0 (fun k_ e_ => HO_7.out.1 k_ e_)); have n1_ := Aside0.mk (hb); clear HO_7; clear HB; have HO_7 := n0_; have HB := n1_; clear n0_ n1_; (try clear hb); (try clear hkp); (try clear hy0)))
      go_ret
      exact ⟨_, by first | rfl | (simp [errW_none, errW_some] <;> rfl) | (simp [*, errW_none, errW_some] <;> rfl), by (with_reducible repeat (first | apply Kd.R_alloc | apply Kd.R_drewN | apply Kd.R_drew)); exact HO_7.out, by repeat (first | (with_reducible first | exact HB.out | apply below_alloc | apply pw_below_drewN | apply below_drew1) | exact HB.out)⟩

end Go.Proofs.Ytcjngbpmdmfbdaa.PBandRuns
