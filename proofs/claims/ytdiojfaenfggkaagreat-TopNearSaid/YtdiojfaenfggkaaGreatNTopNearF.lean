/- Functions of the given program, each a Lean function and the walk that shows it. -/
import Derived.Test.YtdiojfaenfggkaaGreatNTopNearE
import Derived.Outline
import Derived.Deep.RegionHeld3
import Derived.Deep.DeepCutAuto
import Derived.Deep.QuietTactic
import Derived.BigQuiet
import Derived.IntWalk
namespace Go.Proofs.YtdiojfaenfggkaaGreat.PTopNear
open Go.RowKit Go.Proofs.YtdiojfaenfggkaaGreatW.PrintWords Go.Proofs.YtdiojfaenfggkaaGreatW.PrintLast Go.Proofs.YtdiojfaenfggkaaGreatW.PrintMore
attribute [local go_sem] max2_int min2_int max_two min_two max_three min_three max_four min_four
set_option linter.unusedVariables false
set_option linter.unusedSimpArgs false
def band_is.f (a0 : Int) : Option (Bool) := if a0 ≥ 0 then (some (decide (a0 ≤ 1048576))) else (some false)
set_option maxHeartbeats 8000000 in
set_option maxRecDepth 100000 in
theorem band_is.calls (a0 : Int) (r : Bool) (w : World) (h : band_is.f a0 = some r) :
  Calls Tryz.prog 140 #[.int .i64 a0] w fun e w' => e = .returned (.bool r) ∧ Drawn0 w w' := by
 have H : (if a0 ≥ 0 then (some (decide (a0 ≤ 1048576))) else (some false)) = some r := h
 clear h
 by_cases c2 : a0 ≥ 0
 ·rw [if_pos c2] at H
  have c2b0 : decide (0 ≤ a0) = true := decide_eq_true c2
  clear c2
  obtain rfl := Option.some.inj H
  go_enter Tryz.func140, Tryz.ntmps140
  go_wp2
  go_ret
  exact ⟨by first | rfl | (simp; done) | (simp [*]; done), by repeat (first | exact Drawn0.refl _ | apply Drawn0.step)⟩
 ·rw [if_neg c2] at H
  have c2b0 : decide (0 ≤ a0) = false := decide_eq_false c2
  clear c2
  obtain rfl := Option.some.inj H
  go_enter Tryz.func140, Tryz.ntmps140
  go_wp2
  go_ret
  exact ⟨by first | rfl | (simp; done) | (simp [*]; done), by repeat (first | exact Drawn0.refl _ | apply Drawn0.step)⟩
def band_edges.f (a0 : Int) (a1 : Int) (a2 : Int) : Option (Int × Int × Bool) := if a2 < (mx (wrap64 (a0 - a1)) (wrap64 (-(wrap64 (a0 - a1))))) then (some (0, 0, false)) else (some (mx (wrap64 (-a1)) (wrap64 ((mn 0 (wrap64 (a0 - a1))) - (mn (wrap64 (Int.tdiv (wrap64 (a2 - (mx (wrap64 (a0 - a1)) (wrap64 (-(wrap64 (a0 - a1))))))) 2)) a1))), mn a0 (wrap64 ((mx 0 (wrap64 (a0 - a1))) + (mn (wrap64 (Int.tdiv (wrap64 (a2 - (mx (wrap64 (a0 - a1)) (wrap64 (-(wrap64 (a0 - a1))))))) 2)) a0))), true))
set_option maxHeartbeats 8000000 in
set_option maxRecDepth 100000 in
theorem band_edges.calls (a0 : Int) (a1 : Int) (a2 : Int) (r1 : Int) (r2 : Int) (r3 : Bool) (w : World) (h : band_edges.f a0 a1 a2 = some (r1, r2, r3)) :
  Calls Tryz.prog 87 #[.int .i64 a0, .int .i64 a1, .int .i64 a2] w fun e w' => e = .returned (.tuple #[.int .i64 r1, .int .i64 r2, .bool r3]) ∧ Below w.heap.size w w' := by
 have HB := Aside0.mk (Below.refl w.heap.size w)
 have H : (if a2 < (mx (wrap64 (a0 - a1)) (wrap64 (-(wrap64 (a0 - a1))))) then (some (0, 0, false)) else (some (mx (wrap64 (-a1)) (wrap64 ((mn 0 (wrap64 (a0 - a1))) - (mn (wrap64 (Int.tdiv (wrap64 (a2 - (mx (wrap64 (a0 - a1)) (wrap64 (-(wrap64 (a0 - a1))))))) 2)) a1))), mn a0 (wrap64 ((mx 0 (wrap64 (a0 - a1))) + (mn (wrap64 (Int.tdiv (wrap64 (a2 - (mx (wrap64 (a0 - a1)) (wrap64 (-(wrap64 (a0 - a1))))))) 2)) a0))), true))) = some (r1, r2, r3) := h
 clear h
 obtain ⟨ji4, hji4⟩ : ∃ j_ : Int, (mx (wrap64 (a0 - a1)) (wrap64 (-(wrap64 (a0 - a1))))) = j_ := ⟨_, rfl⟩
 replace H : (if a2 < (ji4) then (some (0, 0, false)) else (some (mx (wrap64 (-a1)) (wrap64 ((mn 0 (wrap64 (a0 - a1))) - (mn (wrap64 (Int.tdiv (wrap64 (a2 - (ji4))) 2)) a1))), mn a0 (wrap64 ((mx 0 (wrap64 (a0 - a1))) + (mn (wrap64 (Int.tdiv (wrap64 (a2 - (ji4))) 2)) a0))), true))) = some (r1, r2, r3) := by first | (rw [hji4] at H; exact H) | (simp only [hji4] at H ⊢; exact H)
 have hji4_ : (if (wrap64 (a0 - a1)) < (wrap64 (-(wrap64 (a0 - a1)))) then (wrap64 (-(wrap64 (a0 - a1)))) else (wrap64 (a0 - a1))) = ji4 := hji4
 by_cases c5 : a2 < (ji4)
 ·rw [if_pos c5] at H
  have c5b0 : decide (a2 < (ji4)) = true := decide_eq_true c5
  clear c5
  simp only [Option.some.injEq, Prod.mk.injEq] at H
  obtain ⟨rfl, rfl, rfl⟩ := H
  go_enter Tryz.func87, Tryz.ntmps87
  go_wp2
  go_ret3
  exact ⟨by first | rfl | (simp [errW_none, errW_some] <;> rfl) | (simp only [← hji4]; first | rfl | (simp [errW_none, errW_some] <;> rfl)) | (simp [*, errW_none, errW_some] <;> rfl), by repeat (first | (with_reducible first | exact HB.out | apply below_alloc | apply pw_below_drewN | apply below_drew1) | exact HB.out)⟩
 ·rw [if_neg c5] at H
  have c5b0 : decide (a2 < (ji4)) = false := decide_eq_false c5
  clear c5
  obtain ⟨ji7, hji7⟩ : ∃ j_ : Int, (mn 0 (wrap64 (a0 - a1))) = j_ := ⟨_, rfl⟩
  replace H : (some (mx (wrap64 (-a1)) (wrap64 ((ji7) - (mn (wrap64 (Int.tdiv (wrap64 (a2 - (ji4))) 2)) a1))), mn a0 (wrap64 ((mx 0 (wrap64 (a0 - a1))) + (mn (wrap64 (Int.tdiv (wrap64 (a2 - (ji4))) 2)) a0))), true)) = some (r1, r2, r3) := by first | (rw [hji7] at H; exact H) | (simp only [hji7] at H ⊢; exact H)
  (try (have hji7h : ji7 ≤ 0 := by (rw [← hji7]; unfold mn; (repeat' split) <;> omega)))
  (try (have hji7g : ji7 ≤ 64 := by omega))
  have hji7_ : (if (wrap64 (a0 - a1)) < 0 then (wrap64 (a0 - a1)) else 0) = ji7 := hji7
  obtain ⟨ji8, hji8⟩ : ∃ j_ : Int, (mn (wrap64 (Int.tdiv (wrap64 (a2 - (ji4))) 2)) a1) = j_ := ⟨_, rfl⟩
  replace H : (some (mx (wrap64 (-a1)) (wrap64 ((ji7) - (ji8))), mn a0 (wrap64 ((mx 0 (wrap64 (a0 - a1))) + (mn (wrap64 (Int.tdiv (wrap64 (a2 - (ji4))) 2)) a0))), true)) = some (r1, r2, r3) := by first | (rw [hji8] at H; exact H) | (simp only [hji8] at H ⊢; exact H)
  have hji8_ : (if a1 < (wrap64 (Int.tdiv (wrap64 (a2 - (ji4))) 2)) then a1 else (wrap64 (Int.tdiv (wrap64 (a2 - (ji4))) 2))) = ji8 := hji8
  obtain ⟨ji9, hji9⟩ : ∃ j_ : Int, (mx (wrap64 (-a1)) (wrap64 ((ji7) - (ji8)))) = j_ := ⟨_, rfl⟩
  replace H : (some (ji9, mn a0 (wrap64 ((mx 0 (wrap64 (a0 - a1))) + (mn (wrap64 (Int.tdiv (wrap64 (a2 - (ji4))) 2)) a0))), true)) = some (r1, r2, r3) := by first | (rw [hji9] at H; exact H) | (simp only [hji9] at H ⊢; exact H)
  have hji9_ : (if (wrap64 (-a1)) < (wrap64 ((ji7) - (ji8))) then (wrap64 ((ji7) - (ji8))) else (wrap64 (-a1))) = ji9 := hji9
  obtain ⟨ji10, hji10⟩ : ∃ j_ : Int, (mx 0 (wrap64 (a0 - a1))) = j_ := ⟨_, rfl⟩
  replace H : (some (ji9, mn a0 (wrap64 ((ji10) + (mn (wrap64 (Int.tdiv (wrap64 (a2 - (ji4))) 2)) a0))), true)) = some (r1, r2, r3) := by first | (rw [hji10] at H; exact H) | (simp only [hji10] at H ⊢; exact H)
  (try (have hji10l : 0 ≤ ji10 := by (rw [← hji10]; unfold mx; (repeat' split) <;> omega)))
  (try (have hji10m : 0 ≤ ji10 := by omega))
  have hji10_ : (if 0 < (wrap64 (a0 - a1)) then (wrap64 (a0 - a1)) else 0) = ji10 := hji10
  obtain ⟨ji11, hji11⟩ : ∃ j_ : Int, (mn (wrap64 (Int.tdiv (wrap64 (a2 - (ji4))) 2)) a0) = j_ := ⟨_, rfl⟩
  replace H : (some (ji9, mn a0 (wrap64 ((ji10) + (ji11))), true)) = some (r1, r2, r3) := by first | (rw [hji11] at H; exact H) | (simp only [hji11] at H ⊢; exact H)
  have hji11_ : (if a0 < (wrap64 (Int.tdiv (wrap64 (a2 - (ji4))) 2)) then a0 else (wrap64 (Int.tdiv (wrap64 (a2 - (ji4))) 2))) = ji11 := hji11
  obtain ⟨ji12, hji12⟩ : ∃ j_ : Int, (mn a0 (wrap64 ((ji10) + (ji11)))) = j_ := ⟨_, rfl⟩
  replace H : (some (ji9, ji12, true)) = some (r1, r2, r3) := by first | (rw [hji12] at H; exact H) | (simp only [hji12] at H ⊢; exact H)
  have hji12_ : (if (wrap64 ((ji10) + (ji11))) < a0 then (wrap64 ((ji10) + (ji11))) else a0) = ji12 := hji12
  simp only [Option.some.injEq, Prod.mk.injEq] at H
  obtain ⟨rfl, rfl, rfl⟩ := H
  go_enter Tryz.func87, Tryz.ntmps87
  go_wp2
  go_ret3
  exact ⟨by first | rfl | (simp [errW_none, errW_some] <;> rfl) | (simp only [← hji4, ← hji7, ← hji8, ← hji9, ← hji10, ← hji11, ← hji12]; first | rfl | (simp [errW_none, errW_some] <;> rfl)) | (simp [*, errW_none, errW_some] <;> rfl), by repeat (first | (with_reducible first | exact HB.out | apply below_alloc | apply pw_below_drewN | apply below_drew1) | exact HB.out)⟩
def band_line_at.f (a0_0 : Int) (l0_1 : List Int) (a1 : Int) : Option (Int) := if a1 < a0_0 then (some 1152921504606846976) else (if a1 ≥ (wrap64 (a0_0 + (l0_1.length : Int))) then (some 1152921504606846976) else (if 0 ≤ (wrap64 (a1 - a0_0)) then (if (wrap64 (a1 - a0_0)) < (l0_1.length : Int) then (some (rd l0_1 (wrap64 (a1 - a0_0)))) else (none)) else (none)))
set_option maxHeartbeats 8000000 in
set_option maxRecDepth 100000 in
theorem band_line_at.calls (a0_0 : Int) (A0_1 : Option Addr) (c0_1 : Nat) (l0_1 : List Int) (a1 : Int) (r : Int) (w : World) (hr0_1 : Kd.C (Kd.int .i64) w A0_1 l0_1.length l0_1) (hc0_1 : l0_1.length ≤ c0_1) (h : band_line_at.f a0_0 l0_1 a1 = some r) :
  Calls Tryz.prog 89 #[.agg #[.int .i64 a0_0, .slice A0_1 l0_1.length c0_1], .int .i64 a1] w fun e w' => e = .returned (.int .i64 r) ∧ Below w.heap.size w w' := by
 have hu129 := Tryz.underlying129
 have HR0_1 := Aside0.mk hr0_1
 have HC0_1 := Aside0.mk hc0_1
 clear hr0_1 hc0_1
 have HB := Aside0.mk (Below.refl w.heap.size w)
 have H : (if a1 < a0_0 then (some 1152921504606846976) else (if a1 ≥ (wrap64 (a0_0 + (l0_1.length : Int))) then (some 1152921504606846976) else (if 0 ≤ (wrap64 (a1 - a0_0)) then (if (wrap64 (a1 - a0_0)) < (l0_1.length : Int) then (some (rd l0_1 (wrap64 (a1 - a0_0)))) else (none)) else (none)))) = some r := h
 clear h
 by_cases c3 : a1 < a0_0
 ·rw [if_pos c3] at H
  have c3b0 : decide (a1 < a0_0) = true := decide_eq_true c3
  clear c3
  obtain rfl := Option.some.inj H
  go_enter Tryz.func89, Tryz.ntmps89
  go_wp2_with (first | ((with_reducible refine gate_dst (N := 2) rfl ?_); (try (refine gate_guard (by rfl) ?_; dsimp only)); refine box_event ?hg (N := 2) ?hd (cs := #[.int .i64 a0_0, .slice A0_1 l0_1.length c0_1]) (t := 129) ?hr ?_; (case hd => rfl); (case hg => rfl); (case hr => first | (go_simp; done) | (go_simp; rfl)); intro gb362 hg w4 hbox hb; have n0_ := Aside0.mk (below_step (by repeat (first | (with_reducible first | exact HB.out | apply below_alloc | apply pw_below_drewN | apply below_drew1) | exact HB.out)) hb); have n1_ := Aside0.mk (hbox); have n2_ := Aside0.mk ((by rw [hg]; exact (below_size (by repeat (first | (with_reducible first | exact HB.out | apply below_alloc | apply pw_below_drewN | apply below_drew1) | exact HB.out))) : w.heap.size ≤ gb362)); have n3_ := Aside0.mk ((by rw [hg]; exact (below_size (by repeat (first | (with_reducible first | exact HB.out | apply below_alloc | apply pw_below_drewN | apply below_drew1) | exact HB.out))) : w.heap.size ≤ gb362)); clear HB; have HB := n0_; have BK362 := n1_; have GW362 := n2_; have GE362 := n3_; clear n0_ n1_ n2_ n3_; (try clear hb); (try clear hbox); (try clear hg); have hcz5_0 : w4.cell? ⟨gb362, 0, none⟩ = some (.int .i64 a0_0) := (blk_cell BK362.out 0).trans rfl; have hcz5_1 : w4.cell? ⟨gb362, 1, none⟩ = some (.slice A0_1 l0_1.length c0_1) := (blk_cell BK362.out 1).trans rfl; have hfz5_0 := blk_frozen BK362.out 0; have hfz5_1 := blk_frozen BK362.out 1))
  go_ret
  exact ⟨by first | rfl | (simp [errW_none, errW_some] <;> rfl) | (simp [*, errW_none, errW_some] <;> rfl), by repeat (first | (with_reducible first | exact HB.out | apply below_alloc | apply pw_below_drewN | apply below_drew1 | refine below_set ?_ GE362.out) | exact HB.out)⟩
 ·rw [if_neg c3] at H
  have c3b0 : decide (a1 < a0_0) = false := decide_eq_false c3
  clear c3
  by_cases c6 : a1 ≥ (wrap64 (a0_0 + (l0_1.length : Int)))
  ·rw [if_pos c6] at H
   have c6b0 : decide ((wrap64 (a0_0 + (l0_1.length : Int))) ≤ a1) = true := decide_eq_true c6
   clear c6
   obtain rfl := Option.some.inj H
   go_enter Tryz.func89, Tryz.ntmps89
   go_wp2_with (first | ((with_reducible refine gate_dst (N := 2) rfl ?_); (try (refine gate_guard (by rfl) ?_; dsimp only)); refine box_event ?hg (N := 2) ?hd (cs := #[.int .i64 a0_0, .slice A0_1 l0_1.length c0_1]) (t := 129) ?hr ?_; (case hd => rfl); (case hg => rfl); (case hr => first | (go_simp; done) | (go_simp; rfl)); intro gb362 hg w7 hbox hb; have n0_ := Aside0.mk (below_step (by repeat (first | (with_reducible first | exact HB.out | apply below_alloc | apply pw_below_drewN | apply below_drew1) | exact HB.out)) hb); have n1_ := Aside0.mk (hbox); have n2_ := Aside0.mk ((by rw [hg]; exact (below_size (by repeat (first | (with_reducible first | exact HB.out | apply below_alloc | apply pw_below_drewN | apply below_drew1) | exact HB.out))) : w.heap.size ≤ gb362)); have n3_ := Aside0.mk ((by rw [hg]; exact (below_size (by repeat (first | (with_reducible first | exact HB.out | apply below_alloc | apply pw_below_drewN | apply below_drew1) | exact HB.out))) : w.heap.size ≤ gb362)); clear HB; have HB := n0_; have BK362 := n1_; have GW362 := n2_; have GE362 := n3_; clear n0_ n1_ n2_ n3_; (try clear hb); (try clear hbox); (try clear hg); have hcz8_0 : w7.cell? ⟨gb362, 0, none⟩ = some (.int .i64 a0_0) := (blk_cell BK362.out 0).trans rfl; have hcz8_1 : w7.cell? ⟨gb362, 1, none⟩ = some (.slice A0_1 l0_1.length c0_1) := (blk_cell BK362.out 1).trans rfl; have hfz8_0 := blk_frozen BK362.out 0; have hfz8_1 := blk_frozen BK362.out 1))
   go_ret
   exact ⟨by first | rfl | (simp [errW_none, errW_some] <;> rfl) | (simp [*, errW_none, errW_some] <;> rfl), by repeat (first | (with_reducible first | exact HB.out | apply below_alloc | apply pw_below_drewN | apply below_drew1 | refine below_set ?_ GE362.out) | exact HB.out)⟩
  ·rw [if_neg c6] at H
   have c6b0 : decide ((wrap64 (a0_0 + (l0_1.length : Int))) ≤ a1) = false := decide_eq_false c6
   clear c6
   obtain ⟨ji9, hji9⟩ : ∃ j_ : Int, (wrap64 (a1 - a0_0)) = j_ := ⟨_, rfl⟩
   replace H : (if 0 ≤ (ji9) then (if (ji9) < (l0_1.length : Int) then (some (rd l0_1 (ji9))) else (none)) else (none)) = some r := by first | (rw [hji9] at H; exact H) | (simp only [hji9] at H ⊢; exact H)
   have hji9w : (IntKind.i64.wrap (a1 - a0_0)) = ji9 := (i64_w _).trans hji9
   by_cases c10 : 0 ≤ (ji9)
   ·rw [if_pos c10] at H
    have c10b0 : decide (0 ≤ (ji9)) = true := decide_eq_true c10
    clear c10
    by_cases c11 : (ji9) < (l0_1.length : Int)
    ·rw [if_pos c11] at H
     have c11b0 : decide ((ji9) < (l0_1.length : Int)) = true := decide_eq_true c11
     clear c11
     obtain rfl := Option.some.inj H
     go_enter Tryz.func89, Tryz.ntmps89
     go_wp2_with (first | ((with_reducible refine gate_dst (N := 2) rfl ?_); (try (refine gate_guard (by rfl) ?_; dsimp only)); refine box_event ?hg (N := 2) ?hd (cs := #[.int .i64 a0_0, .slice A0_1 l0_1.length c0_1]) (t := 129) ?hr ?_; (case hd => rfl); (case hg => rfl); (case hr => first | (go_simp; done) | (go_simp; rfl)); intro gb362 hg w12 hbox hb; have n0_ := Aside0.mk (below_step (by repeat (first | (with_reducible first | exact HB.out | apply below_alloc | apply pw_below_drewN | apply below_drew1) | exact HB.out)) hb); have n1_ := Aside0.mk (hbox); have n2_ := Aside0.mk ((by rw [hg]; exact (below_size (by repeat (first | (with_reducible first | exact HB.out | apply below_alloc | apply pw_below_drewN | apply below_drew1) | exact HB.out))) : w.heap.size ≤ gb362)); have n3_ := Aside0.mk ((by rw [hg]; exact (below_size (by repeat (first | (with_reducible first | exact HB.out | apply below_alloc | apply pw_below_drewN | apply below_drew1) | exact HB.out))) : w.heap.size ≤ gb362)); clear HB; have HB := n0_; have BK362 := n1_; have GW362 := n2_; have GE362 := n3_; clear n0_ n1_ n2_ n3_; (try clear hb); (try clear hbox); (try clear hg); have hcz13_0 : w12.cell? ⟨gb362, 0, none⟩ = some (.int .i64 a0_0) := (blk_cell BK362.out 0).trans rfl; have hcz13_1 : w12.cell? ⟨gb362, 1, none⟩ = some (.slice A0_1 l0_1.length c0_1) := (blk_cell BK362.out 1).trans rfl; have hfz13_0 := blk_frozen BK362.out 0; have hfz13_1 := blk_frozen BK362.out 1; have p363 : 0 ≤ ((ji9) : Int) := of_decide_eq_true (by first | (with_reducible assumption) | assumption); have q363 : (ji9) < (l0_1.length : Int) := of_decide_eq_true (by first | (with_reducible assumption) | assumption); obtain ⟨ad363, e363, hx363_0⟩ := Kd.at_int HR0_1.out (ji9) p363 q363; cases e363; replace hx363_0 := (HB.out.cell (World.block_lt_of_cell? w _ hx363_0)).trans hx363_0; replace p363 := eq_true p363; replace q363 := eq_true q363))
     go_ret
     exact ⟨by first | rfl | (simp [errW_none, errW_some] <;> rfl) | (simp only [← hji9]; first | rfl | (simp [errW_none, errW_some] <;> rfl)) | (simp [*, errW_none, errW_some] <;> rfl), by repeat (first | (with_reducible first | exact HB.out | apply below_alloc | apply pw_below_drewN | apply below_drew1 | refine below_set ?_ GE362.out) | exact HB.out)⟩
    ·rw [if_neg c11] at H
     exact absurd H (by simp)
   ·rw [if_neg c10] at H
    exact absurd H (by simp)
mutual
def band_next.l0 : Nat → List Int → List Int → Int → Int → Int → Int → List Int → Int → List Int → Option (Int × List Int)
 | 0, _, _, _, _, _, _, _, _, _ => none
 | k + 1, x0, x1, x2, x14, x16, x365000, x365001, x367000, x367001 => if x16 ≤ x14 then (if x2 = 0 then (band_next.j1 k x0 x1 x2 x14 x16 (x16 == 0) x365000 x365001 x367000 x367001) else (band_next.j1 k x0 x1 x2 x14 x16 false x365000 x365001 x367000 x367001)) else (some (x367000, x367001))
def band_next.j1 : Nat → List Int → List Int → Int → Int → Int → Bool → Int → List Int → Int → List Int → Option (Int × List Int)
 | 0, _, _, _, _, _, _, _, _, _, _ => none
 | k + 1, x0, x1, x2, x14, x16, x46, x365000, x365001, x367000, x367001 => if x46 = true then (if x367001.length < 17592186044416 then (band_next.l0 k x0 x1 x2 x14 (wrap64 (x16 + 1)) x365000 x365001 x367000 (x367001 ++ [0])) else (none)) else (if x2 > 0 then (if x16 > 0 then (if 0 ≤ (wrap64 (x2 - 1)) then (if (wrap64 (x2 - 1)) < (x0.length : Int) then (if 0 ≤ (wrap64 (x16 - 1)) then (if (wrap64 (x16 - 1)) < (x1.length : Int) then (band_next.j2 k x0 x1 x2 x14 x16 ((rd x0 (wrap64 (x2 - 1))) == (rd x1 (wrap64 (x16 - 1)))) x365000 x365001 x367000 x367001) else (none)) else (none)) else (none)) else (none)) else (band_next.j2 k x0 x1 x2 x14 x16 false x365000 x365001 x367000 x367001)) else (band_next.j2 k x0 x1 x2 x14 x16 false x365000 x365001 x367000 x367001))
def band_next.j2 : Nat → List Int → List Int → Int → Int → Int → Bool → Int → List Int → Int → List Int → Option (Int × List Int)
 | 0, _, _, _, _, _, _, _, _, _, _ => none
 | k + 1, x0, x1, x2, x14, x16, x53, x365000, x365001, x367000, x367001 => if x53 = true then ((band_line_at.f x365000 x365001 (wrap64 (x16 - 1))).bind fun t372 => (if x367001.length < 17592186044416 then (band_next.l0 k x0 x1 x2 x14 (wrap64 (x16 + 1)) x365000 x365001 x367000 (x367001 ++ [t372])) else (none))) else ((band_line_at.f x365000 x365001 x16).bind fun t376 => ((band_line_at.f x367000 x367001 (wrap64 (x16 - 1))).bind fun t377 => (if x367001.length < 17592186044416 then (band_next.l0 k x0 x1 x2 x14 (wrap64 (x16 + 1)) x365000 x365001 x367000 (x367001 ++ [mn (mn 1152921504606846976 (wrap64 (t376 + 1))) (wrap64 (t377 + 1))])) else (none))))
end
def band_next.f (k : Nat) (l0 : List Int) (l1 : List Int) (a2 : Int) (a3 : Int) (a4 : Int) (a5_0 : Int) (l5_1 : List Int) : Option (Int × List Int) := band_next.l0 k l0 l1 a2 (mn (l1.length : Int) (wrap64 (a2 - a3))) (mx 0 (wrap64 (a2 - a4))) a5_0 l5_1 (mx 0 (wrap64 (a2 - a4))) ([] : List Int)
theorem band_next.mono_l : ∀ k, (∀ y0 y1 y2 y3 y4 y5 y6 y7 y8, LeO (band_next.l0 k y0 y1 y2 y3 y4 y5 y6 y7 y8) (band_next.l0 (k + 1) y0 y1 y2 y3 y4 y5 y6 y7 y8)) ∧ (∀ y0 y1 y2 y3 y4 y5 y6 y7 y8 y9, LeO (band_next.j1 k y0 y1 y2 y3 y4 y5 y6 y7 y8 y9) (band_next.j1 (k + 1) y0 y1 y2 y3 y4 y5 y6 y7 y8 y9)) ∧ (∀ y0 y1 y2 y3 y4 y5 y6 y7 y8 y9, LeO (band_next.j2 k y0 y1 y2 y3 y4 y5 y6 y7 y8 y9) (band_next.j2 (k + 1) y0 y1 y2 y3 y4 y5 y6 y7 y8 y9))
 | 0 => ⟨fun _ _ _ _ _ _ _ _ _ r h => by simp [band_next.l0] at h, fun _ _ _ _ _ _ _ _ _ _ r h => by simp [band_next.j1] at h, fun _ _ _ _ _ _ _ _ _ _ r h => by simp [band_next.j2] at h⟩
 | k + 1 => by
  obtain ⟨ih0, ih1, ih2⟩ := band_next.mono_l k
  refine ⟨?_, ?_, ?_⟩
  ·intro y0 y1 y2 y3 y4 y5 y6 y7 y8
   unfold band_next.l0
   repeat' first
   | (with_reducible exact ih0 _ _ _ _ _ _ _ _ _)
   | (with_reducible exact ih1 _ _ _ _ _ _ _ _ _ _)
   | (with_reducible exact ih2 _ _ _ _ _ _ _ _ _ _)
   | (with_reducible exact LeO.refl _)
   | (with_reducible exact LeO.none _)
   | (with_reducible refine LeO.ite ?_ ?_)
   | (with_reducible refine LeO.bind ?_ (fun _ => ?_))
   | exact ih0 _ _ _ _ _ _ _ _ _
   | exact ih1 _ _ _ _ _ _ _ _ _ _
   | exact ih2 _ _ _ _ _ _ _ _ _ _
   | exact LeO.none _
   | refine LeO.ite ?_ ?_
   | refine LeO.bind ?_ (fun _ => ?_)
  ·intro y0 y1 y2 y3 y4 y5 y6 y7 y8 y9
   unfold band_next.j1
   repeat' first
   | (with_reducible exact ih0 _ _ _ _ _ _ _ _ _)
   | (with_reducible exact ih1 _ _ _ _ _ _ _ _ _ _)
   | (with_reducible exact ih2 _ _ _ _ _ _ _ _ _ _)
   | (with_reducible exact LeO.refl _)
   | (with_reducible exact LeO.none _)
   | (with_reducible refine LeO.ite ?_ ?_)
   | (with_reducible refine LeO.bind ?_ (fun _ => ?_))
   | exact ih0 _ _ _ _ _ _ _ _ _
   | exact ih1 _ _ _ _ _ _ _ _ _ _
   | exact ih2 _ _ _ _ _ _ _ _ _ _
   | exact LeO.none _
   | refine LeO.ite ?_ ?_
   | refine LeO.bind ?_ (fun _ => ?_)
  ·intro y0 y1 y2 y3 y4 y5 y6 y7 y8 y9
   unfold band_next.j2
   repeat' first
   | (with_reducible exact ih0 _ _ _ _ _ _ _ _ _)
   | (with_reducible exact ih1 _ _ _ _ _ _ _ _ _ _)
   | (with_reducible exact ih2 _ _ _ _ _ _ _ _ _ _)
   | (with_reducible exact LeO.refl _)
   | (with_reducible exact LeO.none _)
   | (with_reducible refine LeO.ite ?_ ?_)
   | (with_reducible refine LeO.bind ?_ (fun _ => ?_))
   | exact ih0 _ _ _ _ _ _ _ _ _
   | exact ih1 _ _ _ _ _ _ _ _ _ _
   | exact ih2 _ _ _ _ _ _ _ _ _ _
   | exact LeO.none _
   | refine LeO.ite ?_ ?_
   | refine LeO.bind ?_ (fun _ => ?_)
theorem band_next.mono : ∀ a0 a1 a2 a3 a4 a5 a6 k, LeO (band_next.f k a0 a1 a2 a3 a4 a5 a6) (band_next.f (k + 1) a0 a1 a2 a3 a4 a5 a6) := by
 intro a0 a1 a2 a3 a4 a5 a6 k
 obtain ⟨ih0, ih1, ih2⟩ := band_next.mono_l k
 unfold band_next.f
 repeat' first
   | (with_reducible exact ih0 _ _ _ _ _ _ _ _ _)
   | (with_reducible exact ih1 _ _ _ _ _ _ _ _ _ _)
   | (with_reducible exact ih2 _ _ _ _ _ _ _ _ _ _)
   | (with_reducible exact LeO.refl _)
   | (with_reducible exact LeO.none _)
   | (with_reducible refine LeO.ite ?_ ?_)
   | (with_reducible refine LeO.bind ?_ (fun _ => ?_))
   | exact ih0 _ _ _ _ _ _ _ _ _
   | exact ih1 _ _ _ _ _ _ _ _ _ _
   | exact ih2 _ _ _ _ _ _ _ _ _ _
   | exact LeO.none _
   | refine LeO.ite ?_ ?_
   | refine LeO.bind ?_ (fun _ => ?_)
def band_next.T7 : Bool × List (List Nat × List Nat) := (true, [([], []), ([], []), ([0, 1], [0, 1]), ([2], [2]), ([], []), ([], []), ([5], [5]), ([4, 6, 2], [4, 6]), ([7], [7]), ([3, 8], [3, 8]), ([9, 7, 0, 1, 2, 3, 4, 5, 6, 7, 8, 9], [9])])
def band_next.B7 : List Nat := [0, 0, 3, 7, 0, 0, 32, 119, 247, 511, 1023]
theorem band_next.tab7 : rtab .any (opsOf Tryz.f88 7) = band_next.T7 := by kernel_rfl
theorem band_next.bits7 : waitsOk band_next.T7.2 band_next.B7 = true := by kernel_rfl
def band_next.T10 : Bool × List (List Nat × List Nat) := (true, [([], []), ([0], [0]), ([1], [1]), ([2], [2]), ([3, 2], [2, 3]), ([2, 4], [2, 4]), ([5, 2], [5]), ([6], [6]), ([6], [6]), ([8, 6], [6, 8]), ([7, 9, 6], [6, 7, 9]), ([10, 6], [6, 10]), ([6], [6]), ([6], [6]), ([13, 6], [6, 13]), ([12, 14, 6], [6, 12, 14]), ([15, 6], [6, 15]), ([11, 16, 6], [6, 11, 16]), ([6, 17], [6, 17]), ([18, 6], [18])])
def band_next.B10 : List Nat := [0, 1, 3, 7, 15, 31, 63, 127, 127, 383, 1023, 2047, 127, 127, 8319, 28799, 61567, 131071, 262143, 524287]
theorem band_next.tab10 : rtab .any (opsOf Tryz.f88 10) = band_next.T10 := by kernel_rfl
theorem band_next.bits10 : waitsOk band_next.T10.2 band_next.B10 = true := by kernel_rfl
set_option maxHeartbeats 8000000 in
set_option maxRecDepth 100000 in
theorem band_next.calls (k : Nat) (A0 : Option Addr) (c0 : Nat) (l0 : List Int) (A1 : Option Addr) (c1 : Nat) (l1 : List Int) (a2 : Int) (a3 : Int) (a4 : Int) (a5_0 : Int) (A5_1 : Option Addr) (c5_1 : Nat) (l5_1 : List Int) (r1 : Int) (r2 : List Int) (w : World) (hr0 : Kd.C (Kd.int .i64) w A0 l0.length l0) (hc0 : l0.length ≤ c0) (hr1 : Kd.C (Kd.int .i64) w A1 l1.length l1) (hc1 : l1.length ≤ c1) (hr5_1 : Kd.C (Kd.int .i64) w A5_1 l5_1.length l5_1) (hc5_1 : l5_1.length ≤ c5_1) (h : band_next.f k l0 l1 a2 a3 a4 a5_0 l5_1 = some (r1, r2)) :
  Calls Tryz.prog 88 #[.slice A0 l0.length c0, .slice A1 l1.length c1, .int .i64 a2, .int .i64 a3, .int .i64 a4, .agg #[.int .i64 a5_0, .slice A5_1 l5_1.length c5_1]] w fun e w' => ∃ v1_ : Value, e = .returned (.agg #[.int .i64 r1, v1_]) ∧ Kd.R (Kd.int .i64) 3 w' w.heap.size (fun _ => True) v1_ r2 ∧ Below w.heap.size w w' := by
 have hu129 := Tryz.underlying129
 have HR0 := Aside0.mk hr0
 have HC0 := Aside0.mk hc0
 clear hr0 hc0
 have HR1 := Aside0.mk hr1
 have HC1 := Aside0.mk hc1
 clear hr1 hc1
 have HR5_1 := Aside0.mk hr5_1
 have HC5_1 := Aside0.mk hc5_1
 clear hr5_1 hc5_1
 have HB := Aside0.mk (Below.refl w.heap.size w)
 have H : (band_next.l0 k l0 l1 a2 (mn (l1.length : Int) (wrap64 (a2 - a3))) (mx 0 (wrap64 (a2 - a4))) a5_0 l5_1 (mx 0 (wrap64 (a2 - a4))) ([] : List Int)) = some (r1, r2) := h
 clear h
 obtain ⟨ji7, hji7⟩ : ∃ j_ : Int, (mx 0 (wrap64 (a2 - a4))) = j_ := ⟨_, rfl⟩
 replace H : (band_next.l0 k l0 l1 a2 (mn (l1.length : Int) (wrap64 (a2 - a3))) ji7 a5_0 l5_1 ji7 ([] : List Int)) = some (r1, r2) := by first | (rw [hji7] at H; exact H) | (simp only [hji7] at H ⊢; exact H)
 (try (have hji7l : 0 ≤ ji7 := by (rw [← hji7]; unfold mx; (repeat' split) <;> omega)))
 (try (have hji7m : 0 ≤ ji7 := by omega))
 have hji7_ : (if 0 < (wrap64 (a2 - a4)) then (wrap64 (a2 - a4)) else 0) = ji7 := hji7
 obtain ⟨ji8, hji8⟩ : ∃ j_ : Int, (mn (l1.length : Int) (wrap64 (a2 - a3))) = j_ := ⟨_, rfl⟩
 replace H : (band_next.l0 k l0 l1 a2 ji8 ji7 a5_0 l5_1 ji7 ([] : List Int)) = some (r1, r2) := by first | (rw [hji8] at H; exact H) | (simp only [hji8] at H ⊢; exact H)
 have hji8_ : (if (wrap64 (a2 - a3)) < (l1.length : Int) then (wrap64 (a2 - a3)) else (l1.length : Int)) = ji8 := hji8
 have H' := Aside0.mk H
 clear H
 go_enter Tryz.func88, Tryz.ntmps88
 try dsimp only [List.append]
 go_wp2_with (first | ((with_reducible refine gate_dst (N := 11) rfl ?_); refine box_event ?hg (N := 11) ?hd (cs := #[.int .i64 a5_0, .slice A5_1 l5_1.length c5_1]) (t := 129) ?hr ?_; (case hd => rfl); (case hg => rfl); (case hr => first | (go_simp; done) | (go_simp; rfl)); intro gb364 hg w9 hbox hb; have n0_ := Aside0.mk (below_step (by repeat (first | (with_reducible first | exact HB.out | apply below_alloc | apply pw_below_drewN | apply below_drew1) | exact HB.out)) hb); have n1_ := Aside0.mk (hbox); have n2_ := Aside0.mk ((by rw [hg]; exact (below_size (by repeat (first | (with_reducible first | exact HB.out | apply below_alloc | apply pw_below_drewN | apply below_drew1) | exact HB.out))) : w.heap.size ≤ gb364)); have n3_ := Aside0.mk ((by rw [hg]; exact (below_size (by repeat (first | (with_reducible first | exact HB.out | apply below_alloc | apply pw_below_drewN | apply below_drew1) | exact HB.out))) : w.heap.size ≤ gb364)); clear HB; have HB := n0_; have BK364 := n1_; have GW364 := n2_; have GE364 := n3_; clear n0_ n1_ n2_ n3_; (try clear hb); (try clear hbox); (try clear hg)) | ((with_reducible refine gate_dst (N := 12) rfl ?_); refine box_event ?hg (N := 12) ?hd (cs := #[.int .i64 0, .slice none 0 0]) (t := 129) ?hr ?_; (case hd => rfl); (case hg => rfl); (case hr => first | (go_simp; done) | (go_simp; rfl)); intro gb365 hg w10 hbox hb; have n0_ := Aside0.mk (blk_below (g := gb364) (o := .cells #[.int .i64 a5_0, .slice A5_1 l5_1.length c5_1] 129 (0, 0)) (by (with_reducible repeat (first | refine blk_drewN ?_ _ | refine blk_drew ?_ | refine blk_alloc ?_ _)); exact BK364.out) hb); have n1_ := Aside0.mk (below_step (by repeat (first | (with_reducible first | exact HB.out | apply below_alloc | apply pw_below_drewN | apply below_drew1 | refine below_set ?_ GE364.out) | exact HB.out)) hb); have n2_ := Aside0.mk (hbox); have n3_ := Aside0.mk ((by rw [hg]; exact (below_size (by repeat (first | (with_reducible first | exact HB.out | apply below_alloc | apply pw_below_drewN | apply below_drew1 | refine below_set ?_ GE364.out) | exact HB.out))) : w.heap.size ≤ gb365)); have n4_ := Aside0.mk ((by rw [hg]; exact (below_size (by repeat (first | (with_reducible first | exact HB.out | apply below_alloc | apply pw_below_drewN | apply below_drew1 | refine below_set ?_ GE364.out) | exact HB.out))) : w.heap.size ≤ gb365)); have n5_ := Aside0.mk ((by rw [hg]; exact Nat.ne_of_lt (blk_lt (g := gb364) (o := .cells #[.int .i64 a5_0, .slice A5_1 l5_1.length c5_1] 129 (0, 0)) (by (with_reducible repeat (first | refine blk_drewN ?_ _ | refine blk_drew ?_ | refine blk_alloc ?_ _)); exact BK364.out)) : gb364 ≠ gb365)); have n6_ := Aside0.mk ((by rw [hg]; exact Nat.ne_of_gt (blk_lt (g := gb364) (o := .cells #[.int .i64 a5_0, .slice A5_1 l5_1.length c5_1] 129 (0, 0)) (by (with_reducible repeat (first | refine blk_drewN ?_ _ | refine blk_drew ?_ | refine blk_alloc ?_ _)); exact BK364.out)) : gb365 ≠ gb364)); clear BK364; clear HB; have BK364 := n0_; have HB := n1_; have BK365 := n2_; have GW365 := n3_; have GE365 := n4_; have NB364_365 := n5_; have NB365_364 := n6_; clear n0_ n1_ n2_ n3_ n4_ n5_ n6_; (try clear hb); (try clear hbox); (try clear hg)) | ((with_reducible refine gate_dst (N := 15) rfl ?_); refine box_event ?hg (N := 15) ?hd (cs := #[.int .i64 0, .slice none 0 0]) (t := 129) ?hr ?_; (case hd => rfl); (case hg => rfl); (case hr => first | (go_simp; done) | (go_simp; rfl)); intro gb366 hg w11 hbox hb; have n0_ := Aside0.mk (blk_below (g := gb364) (o := .cells #[.int .i64 a5_0, .slice A5_1 l5_1.length c5_1] 129 (0, 0)) (by (with_reducible repeat (first | refine blk_drewN ?_ _ | refine blk_drew ?_ | refine blk_alloc ?_ _)); exact BK364.out) hb); have n1_ := Aside0.mk (blk_below (g := gb365) (o := .cells #[.int .i64 0, .slice none 0 0] 129 (0, 0)) (by (with_reducible repeat (first | refine blk_drewN ?_ _ | refine blk_drew ?_ | refine blk_alloc ?_ _)); exact BK365.out) hb); have n2_ := Aside0.mk (below_step (by repeat (first | (with_reducible first | exact HB.out | apply below_alloc | apply pw_below_drewN | apply below_drew1 | refine below_set ?_ GE364.out | refine below_set ?_ GE365.out) | exact HB.out)) hb); have n3_ := Aside0.mk (hbox); have n4_ := Aside0.mk ((by rw [hg]; exact (below_size (by repeat (first | (with_reducible first | exact HB.out | apply below_alloc | apply pw_below_drewN | apply below_drew1 | refine below_set ?_ GE364.out | refine below_set ?_ GE365.out) | exact HB.out))) : w.heap.size ≤ gb366)); have n5_ := Aside0.mk ((by rw [hg]; exact (below_size (by repeat (first | (with_reducible first | exact HB.out | apply below_alloc | apply pw_below_drewN | apply below_drew1 | refine below_set ?_ GE364.out | refine below_set ?_ GE365.out) | exact HB.out))) : w.heap.size ≤ gb366)); have n6_ := Aside0.mk ((by rw [hg]; exact Nat.ne_of_lt (blk_lt (g := gb364) (o := .cells #[.int .i64 a5_0, .slice A5_1 l5_1.length c5_1] 129 (0, 0)) (by (with_reducible repeat (first | refine blk_drewN ?_ _ | refine blk_drew ?_ | refine blk_alloc ?_ _)); exact BK364.out)) : gb364 ≠ gb366)); have n7_ := Aside0.mk ((by rw [hg]; exact Nat.ne_of_gt (blk_lt (g := gb364) (o := .cells #[.int .i64 a5_0, .slice A5_1 l5_1.length c5_1] 129 (0, 0)) (by (with_reducible repeat (first | refine blk_drewN ?_ _ | refine blk_drew ?_ | refine blk_alloc ?_ _)); exact BK364.out)) : gb366 ≠ gb364)); have n8_ := Aside0.mk ((by rw [hg]; exact Nat.ne_of_lt (blk_lt (g := gb365) (o := .cells #[.int .i64 0, .slice none 0 0] 129 (0, 0)) (by (with_reducible repeat (first | refine blk_drewN ?_ _ | refine blk_drew ?_ | refine blk_alloc ?_ _)); exact BK365.out)) : gb365 ≠ gb366)); have n9_ := Aside0.mk ((by rw [hg]; exact Nat.ne_of_gt (blk_lt (g := gb365) (o := .cells #[.int .i64 0, .slice none 0 0] 129 (0, 0)) (by (with_reducible repeat (first | refine blk_drewN ?_ _ | refine blk_drew ?_ | refine blk_alloc ?_ _)); exact BK365.out)) : gb366 ≠ gb365)); clear BK364; clear BK365; clear HB; have BK364 := n0_; have BK365 := n1_; have HB := n2_; have BK366 := n3_; have GW366 := n4_; have GE366 := n5_; have NB364_366 := n6_; have NB366_364 := n7_; have NB365_366 := n8_; have NB366_365 := n9_; clear n0_ n1_ n2_ n3_ n4_ n5_ n6_ n7_ n8_ n9_; (try clear hb); (try clear hbox); (try clear hg); have hnb12 := NB366_364.out; have hnc12 := NB364_366.out; have hnb13 := NB366_365.out; have hnc13 := NB365_366.out; have hcz14_0 : w11.cell? ⟨gb366, 0, none⟩ = some (.int .i64 0) := (blk_cell BK366.out 0).trans rfl; have hcz14_1 : w11.cell? ⟨gb366, 1, none⟩ = some (.slice none 0 0) := (blk_cell BK366.out 1).trans rfl; have hfz14_0 := blk_frozen BK366.out 0; have hfz14_1 := blk_frozen BK366.out 1))
 go_loopg [16] k (fun kq v16 w' => ∃ (x16_1 : Int) (x367001_1 : List Int) (u367001 : Value), v16 = .int .i64 x16_1 ∧ Aside0 (band_next.l0 kq l0 l1 a2 ji8 x16_1 a5_0 l5_1 ji7 x367001_1 = some (r1, r2)) ∧ Aside0 (kq ≤ k) ∧ Aside0 (Kd.R (Kd.int .i64) 3 w' w.heap.size (fun _ => True) u367001 x367001_1) ∧ Aside0 (w'.heap[gb364]? = some (.cells #[.int .i64 a5_0, (.slice A5_1 l5_1.length c5_1)] 129 (0, 0))) ∧ Aside0 (w'.heap[gb365]? = some (.cells #[.int .i64 0, (.slice none 0 0)] 129 (0, 0))) ∧ Aside0 (w'.heap[gb366]? = some (.cells #[.int .i64 ji7, u367001] 129 (0, 0))) ∧ Aside0 (Below w.heap.size w w'))
 case atStart => exact ⟨(ji7), (([] : List Int)), (.slice none 0 0), (by first | rfl | (simp; done) | (simp only [← hji7] <;> (first | rfl | simp)) | (simp [*]; done)), H', ⟨Nat.le_refl _⟩, ⟨by first | exact Kd.R_nil _ _ _ _ _ | exact Kd.N_nil _ _ _ _ _ | exact Kd.V_nil _ _ _ _ _ | exact Kd.Q_nil _ _ _ _ _ | exact Kd.S_nil _ _ _ _ _⟩, ⟨by (with_reducible repeat (first | refine blk_drewN ?_ _ | refine blk_drew ?_ | refine blk_alloc ?_ _)); refine blk_far ?_ NB364_366.out _; (with_reducible repeat (first | refine blk_drewN ?_ _ | refine blk_drew ?_ | refine blk_alloc ?_ _)); refine blk_far ?_ NB364_366.out _; (with_reducible repeat (first | refine blk_drewN ?_ _ | refine blk_drew ?_ | refine blk_alloc ?_ _)); exact BK364.out⟩, ⟨by (with_reducible repeat (first | refine blk_drewN ?_ _ | refine blk_drew ?_ | refine blk_alloc ?_ _)); refine blk_far ?_ NB365_366.out _; (with_reducible repeat (first | refine blk_drewN ?_ _ | refine blk_drew ?_ | refine blk_alloc ?_ _)); refine blk_far ?_ NB365_366.out _; (with_reducible repeat (first | refine blk_drewN ?_ _ | refine blk_drew ?_ | refine blk_alloc ?_ _)); exact BK365.out⟩, ⟨by (with_reducible repeat (first | refine blk_drewN ?_ _ | refine blk_drew ?_ | refine blk_alloc ?_ _)); refine blk_put (cs := #[.int .i64 ji7, .slice none 0 0]) ?_ 1 _ rfl; (with_reducible repeat (first | refine blk_drewN ?_ _ | refine blk_drew ?_ | refine blk_alloc ?_ _)); refine blk_put (cs := #[.int .i64 0, .slice none 0 0]) ?_ 0 _ rfl; (with_reducible repeat (first | refine blk_drewN ?_ _ | refine blk_drew ?_ | refine blk_alloc ?_ _)); exact BK366.out⟩, ⟨by repeat (first | (with_reducible first | exact HB.out | apply below_alloc | apply pw_below_drewN | apply below_drew1 | refine below_set ?_ GE364.out | refine below_set ?_ GE365.out | refine below_set ?_ GE366.out) | exact HB.out)⟩⟩
 case round =>
  clear H'
  try clear c1
  try clear p2
  try clear c5
  try clear p6
  try clear c8
  try clear c12
  try clear c13
  try clear hcz14_0
  try clear hcz14_1
  try clear hfz14_0
  try clear hfz14_1
  obtain ⟨x16_1, x367001_1, u367001, rfl, HA, HK1, HO_367001, BK364, BK365, BK366, HB⟩ := hrel
  cases gk with
  | zero => exact absurd HA.out (by simp [band_next.l0])
  | succ k1 =>
   have H := HA.out
   clear HA
   simp only [band_next.l0] at H
   by_cases c15 : x16_1 ≤ ji8
   ·rw [if_pos c15] at H
    have c15b0 : decide (x16_1 ≤ ji8) = true := decide_eq_true c15
    clear c15
    have HC16 := Aside0.mk H
    clear H
    go_upto_region 8 with (fail)
    go_cut [46] (fun v46 wc => ∃ (kq : Nat) (x46_15 : Bool), v46 = .bool x46_15 ∧ Aside0 (band_next.j1 kq l0 l1 a2 ji8 x16_1 x46_15 a5_0 l5_1 ji7 x367001_1 = some (r1, r2)) ∧ Aside0 (kq ≤ k1) ∧ Aside0 (Kd.R (Kd.int .i64) 3 wc w.heap.size (fun _ => True) u367001 x367001_1) ∧ Aside0 (wc.heap[gb364]? = some (.cells #[.int .i64 a5_0, (.slice A5_1 l5_1.length c5_1)] 129 (0, 0))) ∧ Aside0 (wc.heap[gb365]? = some (.cells #[.int .i64 0, (.slice none 0 0)] 129 (0, 0))) ∧ Aside0 (wc.heap[gb366]? = some (.cells #[.int .i64 ji7, u367001] 129 (0, 0))) ∧ Aside0 (Below w.heap.size w wc))
    case first =>
     have H := HC16.out
     clear HC16
     by_cases c17 : a2 = 0
     ·rw [if_pos c17] at H
      have c17b0 : (a2 == 0) = true := beq_iff_eq.mpr c17
      have c17b1 : (a2 != 0) = false := bne_eq_false_iff_eq.mpr c17
      clear c17
      (first | rw [c17b0] | (simp only [i64_w, i32_w]; rw [c17b0]) | skip)
      have H' := Aside0.mk H
      clear H
      go_wp2
      go_meet
      case rel => exact ⟨_, ((x16_1 == 0)), (by first | rfl | (simp; done) | (simp [*]; done)), H', ⟨by have := HK1.out; first | omega | exact Nat.le_refl _⟩, ⟨by (with_reducible repeat (first | apply Kd.R_alloc | apply Kd.R_drewN | apply Kd.R_drew)); exact HO_367001.out⟩, ⟨by (with_reducible repeat (first | refine blk_drewN ?_ _ | refine blk_drew ?_ | refine blk_alloc ?_ _)); exact BK364.out⟩, ⟨by (with_reducible repeat (first | refine blk_drewN ?_ _ | refine blk_drew ?_ | refine blk_alloc ?_ _)); exact BK365.out⟩, ⟨by (with_reducible repeat (first | refine blk_drewN ?_ _ | refine blk_drew ?_ | refine blk_alloc ?_ _)); exact BK366.out⟩, ⟨by repeat (first | (with_reducible first | exact HB.out | apply below_alloc | apply pw_below_drewN | apply below_drew1 | refine below_set ?_ GE364.out | refine below_set ?_ GE365.out | refine below_set ?_ GE366.out) | exact HB.out)⟩⟩
     ·rw [if_neg c17] at H
      have c17b0 : (a2 == 0) = false := beq_eq_false_iff_ne.mpr c17
      have c17b1 : (a2 != 0) = true := bne_iff_ne.mpr c17
      (first | rw [c17b0] | (simp only [i64_w, i32_w]; rw [c17b0]) | skip)
      have H' := Aside0.mk H
      clear H
      go_wp2
      go_meet
      case rel => exact ⟨_, (false), (by first | rfl | (simp; done) | (simp [*]; done)), H', ⟨by have := HK1.out; first | omega | exact Nat.le_refl _⟩, ⟨by (with_reducible repeat (first | apply Kd.R_alloc | apply Kd.R_drewN | apply Kd.R_drew)); exact HO_367001.out⟩, ⟨by (with_reducible repeat (first | refine blk_drewN ?_ _ | refine blk_drew ?_ | refine blk_alloc ?_ _)); exact BK364.out⟩, ⟨by (with_reducible repeat (first | refine blk_drewN ?_ _ | refine blk_drew ?_ | refine blk_alloc ?_ _)); exact BK365.out⟩, ⟨by (with_reducible repeat (first | refine blk_drewN ?_ _ | refine blk_drew ?_ | refine blk_alloc ?_ _)); exact BK366.out⟩, ⟨by repeat (first | (with_reducible first | exact HB.out | apply below_alloc | apply pw_below_drewN | apply below_drew1 | refine below_set ?_ GE364.out | refine below_set ?_ GE365.out | refine below_set ?_ GE366.out) | exact HB.out)⟩⟩
    case rest =>
     clear HC16
     try clear c1
     try clear p2
     try clear c5
     try clear p6
     try clear c8
     try clear c12
     try clear c13
     try clear c15
     try clear c15b0
     try clear c17
     try clear c17b0
     try clear c17b1
     try clear hcz14_0
     try clear hcz14_1
     try clear hfz14_0
     try clear hfz14_1
     try clear p2
     try clear p6
     obtain ⟨kq, x46_15, rfl, HA, HJ15, HO_367001, BK364, BK365, BK366, HB⟩ := hcut
     cases kq with
     | zero => exact absurd HA.out (by simp [band_next.j1])
     | succ kj15 =>
      have H := HA.out
      clear HA
      simp only [band_next.j1] at H
      by_cases c18 : x46_15 = true
      ·subst c18
       have H1 : (if x367001_1.length < 17592186044416 then (band_next.l0 kj15 l0 l1 a2 ji8 (wrap64 (x16_1 + 1)) a5_0 l5_1 ji7 (x367001_1 ++ [0])) else (none)) = some (r1, r2) := by rw [if_pos rfl] at H; exact H
       clear H
       have H := H1
       clear H1
       by_cases c19 : x367001_1.length < 17592186044416
       ·rw [if_pos c19] at H
        have LMc19 := Aside0.mk c19
        clear c19
        obtain ⟨y367, hy367⟩ : ∃ y_ : List Int, y_ = (x367001_1 ++ [0]) := ⟨_, rfl⟩
        replace H : (band_next.l0 kj15 l0 l1 a2 ji8 (wrap64 (x16_1 + 1)) a5_0 l5_1 ji7 y367) = some (r1, r2) := by first | (rw [hy367]; with_reducible exact H) | (have H2_ := (Option.bind_some _ _).symm.trans H; rw [hy367]; with_reducible exact H2_) | (have H2_ := (Option.bind_some _ _).symm.trans H; with_reducible exact H2_) | with_reducible exact H | (rw [hy367]; exact H) | exact H
        have Ny367 := Aside0.mk hy367
        clear hy367
        have H' := Aside0.mk H
        clear H
        have hnb20 := NB366_364.out
        have hnc20 := NB364_366.out
        have hnb21 := NB366_365.out
        have hnc21 := NB365_366.out
        have hcz22_0 : wc.cell? ⟨gb366, 0, none⟩ = some (.int .i64 ji7) := (blk_cell BK366.out 0).trans rfl
        have hcz22_1 : wc.cell? ⟨gb366, 1, none⟩ = some (u367001) := (blk_cell BK366.out 1).trans rfl
        have hfz22_0 := blk_frozen BK366.out 0
        have hfz22_1 := blk_frozen BK366.out 1
        go_wp2_with (first | ((with_reducible refine gate_builtin (b := .append) (xs := #[.tmp 78, .tmp 80]) rfl ?_); at_builtin; refine Kd.R_append (Kd.int .i64) (w0 := w) w.heap.size rfl (.tmp 78) (.tmp 80) 25 3 (.int .i64 0) 8 rfl Tryz.underlying25 info3 rfl (by decide) (by omega) u367001 x367001_1 0 [.int .i64 0] (fun _ => True) (fun _ => False) rfl rfl ?aP (fun _ hk => hk.elim) ?aF ?aO ?aB ?aS ?aL ?_; (case aP => exact rfl); (case aB => exact (by repeat (first | (with_reducible first | exact HB.out | apply below_alloc | apply pw_below_drewN | apply below_drew1 | refine below_set ?_ GE364.out | refine below_set ?_ GE365.out | refine below_set ?_ GE366.out) | exact HB.out))); (case aF => exact (fun _ _ => trivial)); (case aO => exact (by (with_reducible repeat (first | apply Kd.R_alloc | apply Kd.R_drewN | apply Kd.R_drew)); exact HO_367001.out)); (case aS => exact (below_size (by repeat (first | (with_reducible first | exact HB.out | apply below_alloc | apply pw_below_drewN | apply below_drew1 | refine below_set ?_ GE364.out | refine below_set ?_ GE365.out | refine below_set ?_ GE366.out) | exact HB.out)))); (case aL => have := LMc19.out; omega); intro v368 w23 ho hb hg hat; rw [← Ny367.out] at ho; have n0_ := Aside0.mk (blk_grown (g := gb364) (o := .cells #[.int .i64 a5_0, .slice A5_1 l5_1.length c5_1] 129 (0, 0)) (by (with_reducible repeat (first | refine blk_drewN ?_ _ | refine blk_drew ?_ | refine blk_alloc ?_ _)); exact BK364.out) hg (Kd.R_ne HO_367001.out BK364.out (by decide))); have n1_ := Aside0.mk (blk_grown (g := gb365) (o := .cells #[.int .i64 0, .slice none 0 0] 129 (0, 0)) (by (with_reducible repeat (first | refine blk_drewN ?_ _ | refine blk_drew ?_ | refine blk_alloc ?_ _)); exact BK365.out) hg (Kd.R_ne HO_367001.out BK365.out (by decide))); have n2_ := Aside0.mk (blk_grown (g := gb366) (o := .cells #[.int .i64 ji7, u367001] 129 (0, 0)) (by (with_reducible repeat (first | refine blk_drewN ?_ _ | refine blk_drew ?_ | refine blk_alloc ?_ _)); exact BK366.out) hg (Kd.R_ne HO_367001.out BK366.out (by decide))); have n3_ := Aside0.mk (hb); have n4_ := Aside0.mk (ho); clear BK364; clear BK365; clear BK366; clear HB; clear HO_367001; have BK364 := n0_; have BK365 := n1_; have BK366 := n2_; have HB := n3_; have HO369 := n4_; clear n0_ n1_ n2_ n3_ n4_; (try clear ho); (try clear hb); (try clear hg); (try clear hat); obtain ⟨Ao24, co24, eo24⟩ := Kd.R_slice HO369.out; subst eo24; have hcz25_0 : w23.cell? ⟨gb366, 0, none⟩ = some (.int .i64 ji7) := (blk_cell BK366.out 0).trans rfl; have hcz25_1 : w23.cell? ⟨gb366, 1, none⟩ = some (u367001) := (blk_cell BK366.out 1).trans rfl; have hfz25_0 := blk_frozen BK366.out 0; have hfz25_1 := blk_frozen BK366.out 1))
        go_roundg kj15
        case measure => have := HK1.out; have := HJ15.out; omega
        case rel => exact ⟨(wrap64 (x16_1 + 1)), (y367), (.slice Ao24 y367.length co24), (by first | rfl | (simp; done) | (simp [*]; done)), H', ⟨by have := HK1.out; have := HJ15.out; omega⟩, ⟨by (with_reducible repeat (first | apply Kd.R_alloc | apply Kd.R_drewN | apply Kd.R_drew)); exact Kd.R_mono (Kd.R_far (p := ⟨gb366, 1, none⟩) (Kd.R_types HO369.out BK366.out (by decide)) (fun _ hk => hk.2) (.slice Ao24 y367.length co24)) (fun _ hk => trivial)⟩, ⟨by (with_reducible repeat (first | refine blk_drewN ?_ _ | refine blk_drew ?_ | refine blk_alloc ?_ _)); refine blk_far ?_ NB364_366.out _; (with_reducible repeat (first | refine blk_drewN ?_ _ | refine blk_drew ?_ | refine blk_alloc ?_ _)); exact BK364.out⟩, ⟨by (with_reducible repeat (first | refine blk_drewN ?_ _ | refine blk_drew ?_ | refine blk_alloc ?_ _)); refine blk_far ?_ NB365_366.out _; (with_reducible repeat (first | refine blk_drewN ?_ _ | refine blk_drew ?_ | refine blk_alloc ?_ _)); exact BK365.out⟩, ⟨by (with_reducible repeat (first | refine blk_drewN ?_ _ | refine blk_drew ?_ | refine blk_alloc ?_ _)); refine blk_put (cs := #[.int .i64 ji7, u367001]) ?_ 1 _ rfl; (with_reducible repeat (first | refine blk_drewN ?_ _ | refine blk_drew ?_ | refine blk_alloc ?_ _)); exact BK366.out⟩, ⟨by repeat (first | (with_reducible first | exact HB.out | apply below_alloc | apply pw_below_drewN | apply below_drew1 | refine below_set ?_ GE364.out | refine below_set ?_ GE365.out | refine below_set ?_ GE366.out) | exact HB.out)⟩⟩
       ·rw [if_neg c19] at H
        exact absurd H (by simp)
      ·replace c18 := Bool.eq_false_iff.mpr c18
       subst c18
       have H1 : (if a2 > 0 then (if x16_1 > 0 then (if 0 ≤ (wrap64 (a2 - 1)) then (if (wrap64 (a2 - 1)) < (l0.length : Int) then (if 0 ≤ (wrap64 (x16_1 - 1)) then (if (wrap64 (x16_1 - 1)) < (l1.length : Int) then (band_next.j2 kj15 l0 l1 a2 ji8 x16_1 ((rd l0 (wrap64 (a2 - 1))) == (rd l1 (wrap64 (x16_1 - 1)))) a5_0 l5_1 ji7 x367001_1) else (none)) else (none)) else (none)) else (none)) else (band_next.j2 kj15 l0 l1 a2 ji8 x16_1 false a5_0 l5_1 ji7 x367001_1)) else (band_next.j2 kj15 l0 l1 a2 ji8 x16_1 false a5_0 l5_1 ji7 x367001_1)) = some (r1, r2) := by rw [if_neg (show ¬ (false = true) by decide)] at H; exact H
       clear H
       have H := H1
       clear H1
       have HC26 := Aside0.mk H
       clear H
       go_upto_region 10 with (fail)
       go_cut [53] (fun v53 wc => ∃ (kq : Nat) (x53_25 : Bool), v53 = .bool x53_25 ∧ Aside0 (band_next.j2 kq l0 l1 a2 ji8 x16_1 x53_25 a5_0 l5_1 ji7 x367001_1 = some (r1, r2)) ∧ Aside0 (kq ≤ kj15) ∧ Aside0 (Kd.R (Kd.int .i64) 3 wc w.heap.size (fun _ => True) u367001 x367001_1) ∧ Aside0 (wc.heap[gb364]? = some (.cells #[.int .i64 a5_0, (.slice A5_1 l5_1.length c5_1)] 129 (0, 0))) ∧ Aside0 (wc.heap[gb365]? = some (.cells #[.int .i64 0, (.slice none 0 0)] 129 (0, 0))) ∧ Aside0 (wc.heap[gb366]? = some (.cells #[.int .i64 ji7, u367001] 129 (0, 0))) ∧ Aside0 (Below w.heap.size w wc))
       case first =>
        have H := HC26.out
        clear HC26
        by_cases c27 : a2 > 0
        ·rw [if_pos c27] at H
         have c27b0 : decide (0 < a2) = true := decide_eq_true c27
         clear c27
         (first | rw [c27b0] | (simp only [i64_w, i32_w]; rw [c27b0]) | skip)
         by_cases c28 : x16_1 > 0
         ·rw [if_pos c28] at H
          have c28b0 : decide (0 < x16_1) = true := decide_eq_true c28
          clear c28
          obtain ⟨ji29, hji29⟩ : ∃ j_ : Int, (wrap64 (a2 - 1)) = j_ := ⟨_, rfl⟩
          replace H : (if 0 ≤ (ji29) then (if (ji29) < (l0.length : Int) then (if 0 ≤ (wrap64 (x16_1 - 1)) then (if (wrap64 (x16_1 - 1)) < (l1.length : Int) then (band_next.j2 kj15 l0 l1 a2 ji8 x16_1 ((rd l0 (ji29)) == (rd l1 (wrap64 (x16_1 - 1)))) a5_0 l5_1 ji7 x367001_1) else (none)) else (none)) else (none)) else (none)) = some (r1, r2) := by first | (rw [hji29] at H; exact H) | (simp only [hji29] at H ⊢; exact H)
          have hji29w : (IntKind.i64.wrap (a2 - 1)) = ji29 := (i64_w _).trans hji29
          by_cases c30 : 0 ≤ (ji29)
          ·rw [if_pos c30] at H
           have c30b0 : decide (0 ≤ (ji29)) = true := decide_eq_true c30
           clear c30
           by_cases c31 : (ji29) < (l0.length : Int)
           ·rw [if_pos c31] at H
            have c31b0 : decide ((ji29) < (l0.length : Int)) = true := decide_eq_true c31
            clear c31
            obtain ⟨ji32, hji32⟩ : ∃ j_ : Int, (wrap64 (x16_1 - 1)) = j_ := ⟨_, rfl⟩
            replace H : (if 0 ≤ (ji32) then (if (ji32) < (l1.length : Int) then (band_next.j2 kj15 l0 l1 a2 ji8 x16_1 ((rd l0 (ji29)) == (rd l1 (ji32))) a5_0 l5_1 ji7 x367001_1) else (none)) else (none)) = some (r1, r2) := by first | (rw [hji32] at H; exact H) | (simp only [hji32] at H ⊢; exact H)
            have hji32w : (IntKind.i64.wrap (x16_1 - 1)) = ji32 := (i64_w _).trans hji32
            by_cases c33 : 0 ≤ (ji32)
            ·rw [if_pos c33] at H
             have c33b0 : decide (0 ≤ (ji32)) = true := decide_eq_true c33
             clear c33
             by_cases c34 : (ji32) < (l1.length : Int)
             ·rw [if_pos c34] at H
              have c34b0 : decide ((ji32) < (l1.length : Int)) = true := decide_eq_true c34
              clear c34
              have H' := Aside0.mk H
              clear H
              try go_wp2
              have n0_ := Aside0.mk (Kd.R_drew HO_367001.out)
              have n1_ := Aside0.mk (blk_drew BK364.out)
              have n2_ := Aside0.mk (blk_drew BK365.out)
              have n3_ := Aside0.mk (blk_drew BK366.out)
              have n4_ := Aside0.mk (below_drew1 HB.out)
              clear HO_367001
              clear BK364
              clear BK365
              clear BK366
              clear HB
              have HO_367001 := n0_
              have BK364 := n1_
              have BK365 := n2_
              have BK366 := n3_
              have HB := n4_
              clear n0_ n1_ n2_ n3_ n4_
              have p370 : 0 ≤ ((ji29) : Int) := of_decide_eq_true (by first | (with_reducible assumption) | assumption)
              have q370 : (ji29) < (l0.length : Int) := of_decide_eq_true (by first | (with_reducible assumption) | assumption)
              obtain ⟨ad370, e370, hx370_0⟩ := Kd.at_int HR0.out (ji29) p370 q370
              have hw370_0 := hx370_0
              cases e370
              replace hx370_0 := (HB.out.cell (World.block_lt_of_cell? w _ hx370_0)).trans hx370_0
              replace p370 := eq_true p370
              replace q370 := eq_true q370
              have p371 : 0 ≤ ((ji32) : Int) := of_decide_eq_true (by first | (with_reducible assumption) | assumption)
              have q371 : (ji32) < (l1.length : Int) := of_decide_eq_true (by first | (with_reducible assumption) | assumption)
              obtain ⟨ad371, e371, hx371_0⟩ := Kd.at_int HR1.out (ji32) p371 q371
              have hw371_0 := hx371_0
              cases e371
              replace hx371_0 := (HB.out.cell (World.block_lt_of_cell? w _ hx371_0)).trans hx371_0
              replace p371 := eq_true p371
              replace q371 := eq_true q371
              refine start_ (n := 20) (S := fun w' => w'.cell? (ad370.add ((ji29)).toNat) = some (.int .i64 (rd l0 (ji29))) ∧ w'.cell? (ad371.add ((ji32)).toNat) = some (.int .i64 (rd l1 (ji32)))) (ds := []) #[N,N,N,N,N,N,N,N,N,N,N,N,N,N,N,N,N,N,N,N] (by kernel_rfl) rfl rfl ⟨((HB.out.cell (World.block_lt_of_cell? w _ hw370_0)).trans hw370_0), ((HB.out.cell (World.block_lt_of_cell? w _ hw371_0)).trans hw371_0)⟩ (fun hHeld => ?_); refine with_tabW band_next.tab10 band_next.bits10 (fun HT_ HW_ => ?_)
              generalize wc.drew = w35 at HO_367001 BK364 BK365 BK366 HB hx370_0 hx371_0 hHeld ⊢
              refine pure_ (i := 0) (N := some 54) (v := ?_) (a' := ?_) #[Y,N,N,N,N,N,N,N,N,N,N,N,N,N,N,N,N,N,N,N] rfl rfl (any_of HT_.out (by kernel_rfl)) (fun _ _ _ h => h) (Or.inl ⟨by rfl, ?_⟩) ?_ ?_; rotate_left
              ·intro w'; go_simp; with_reducible rfl
              rotate_left
              ·simp only [Act.put, sA,sB,sC, i64_w, i32_w]; rfl
              refine pure_ (i := 1) (N := some 55) (v := ?_) (a' := ?_) #[Y,Y,N,N,N,N,N,N,N,N,N,N,N,N,N,N,N,N,N,N] rfl rfl (any_of HT_.out (by kernel_rfl)) (fun _ _ _ h => h) (Or.inl ⟨by rfl, ?_⟩) ?_ ?_; rotate_left
              ·intro w'; go_simp; with_reducible rfl
              rotate_left
              ·simp only [Act.put, sA,sB,sC, i64_w, i32_w]; rfl
              refine pure_ (i := 2) (N := some 56) (v := ?_) (a' := ?_) #[Y,Y,Y,N,N,N,N,N,N,N,N,N,N,N,N,N,N,N,N,N] rfl rfl (any_of HT_.out (by kernel_rfl)) (fun _ _ _ h => h) (Or.inl ⟨by rfl, ?_⟩) ?_ ?_; rotate_left
              ·intro w'; go_simp; with_reducible rfl
              rotate_left
              ·simp only [Act.put, sA,sB,sC, i64_w, i32_w]; rfl
              refine pure_ (i := 3) (N := some 57) (v := ?_) (a' := ?_) #[Y,Y,Y,Y,N,N,N,N,N,N,N,N,N,N,N,N,N,N,N,N] rfl rfl (any_of HT_.out (by kernel_rfl)) (fun _ _ _ h => h) (Or.inl ⟨by rfl, ?_⟩) ?_ ?_; rotate_left
              ·intro w'; go_simp; with_reducible rfl
              rotate_left
              ·simp only [Act.put, sA,sB,sC, i64_w, i32_w]; rfl
              refine pure_ (i := 4) (N := some 58) (v := ?_) (a' := ?_) #[Y,Y,Y,Y,Y,N,N,N,N,N,N,N,N,N,N,N,N,N,N,N] rfl rfl (any_of HT_.out (by kernel_rfl)) (fun _ _ _ h => h) (Or.inl ⟨by rfl, ?_⟩) ?_ ?_; rotate_left
              ·intro w'; go_simp; with_reducible rfl
              rotate_left
              ·simp only [Act.put, sA,sB,sC, i64_w, i32_w]; rfl
              refine pure_ (i := 5) (N := some 59) (v := ?_) (a' := ?_) #[Y,Y,Y,Y,Y,Y,N,N,N,N,N,N,N,N,N,N,N,N,N,N] rfl rfl (any_of HT_.out (by kernel_rfl)) (fun _ _ _ h => h) (Or.inl ⟨by rfl, ?_⟩) ?_ ?_; rotate_left
              ·intro w'; go_simp; with_reducible rfl
              rotate_left
              ·simp only [Act.put, sA,sB,sC, i64_w, i32_w]; rfl
              refine pure_ (i := 6) (N := some 60) (v := ?_) (a' := ?_) #[Y,Y,Y,Y,Y,Y,Y,N,N,N,N,N,N,N,N,N,N,N,N,N] rfl rfl (any_of HT_.out (by kernel_rfl)) (fun _ _ _ h => h) (Or.inl ⟨by rfl, ?_⟩) ?_ ?_; rotate_left
              ·intro w'; go_simp; with_reducible rfl
              rotate_left
              ·simp only [Act.put, sA,sB,sC, i64_w, i32_w]; rfl
              refine pure_ (i := 7) (N := some 61) (v := ?_) (a' := ?_) #[Y,Y,Y,Y,Y,Y,Y,Y,N,N,N,N,N,N,N,N,N,N,N,N] rfl rfl (any_of HT_.out (by kernel_rfl)) (fun _ _ _ h => h) (Or.inl ⟨by rfl, ?_⟩) ?_ ?_; rotate_left
              ·intro w'; go_simp; with_reducible rfl
              rotate_left
              ·simp only [Act.put, sA,sB,sC, i64_w, i32_w]; rfl
              refine pure_ (i := 8) (N := some 62) (v := ?_) (a' := ?_) #[Y,Y,Y,Y,Y,Y,Y,Y,Y,N,N,N,N,N,N,N,N,N,N,N] rfl rfl (any_of HT_.out (by kernel_rfl)) (fun _ _ _ h => h) (Or.inl ⟨by rfl, ?_⟩) ?_ ?_; rotate_left
              ·intro w'; go_simp; with_reducible rfl
              rotate_left
              ·simp only [Act.put, sA,sB,sC, i64_w, i32_w]; rfl
              refine pure_ (i := 9) (N := some 63) (v := ?_) (a' := ?_) #[Y,Y,Y,Y,Y,Y,Y,Y,Y,Y,N,N,N,N,N,N,N,N,N,N] rfl rfl (any_of HT_.out (by kernel_rfl)) (fun _ _ _ h => h) (Or.inl ⟨by rfl, ?_⟩) ?_ ?_; rotate_left
              ·intro w'; go_simp; with_reducible rfl
              rotate_left
              ·simp only [Act.put, sA,sB,sC, i64_w, i32_w]; rfl
              refine pure_ (i := 10) (N := some 64) (v := ?_) (a' := ?_) #[Y,Y,Y,Y,Y,Y,Y,Y,Y,Y,Y,N,N,N,N,N,N,N,N,N] rfl rfl (any_of HT_.out (by kernel_rfl)) (fun _ _ _ h => h) (Or.inl ⟨by rfl, ?_⟩) ?_ ?_; rotate_left
              ·intro w'; go_simp; with_reducible rfl
              rotate_left
              ·simp only [Act.put, sA,sB,sC, i64_w, i32_w]; rfl
              refine pure_ (i := 12) (N := some 66) (v := ?_) (a' := ?_) #[Y,Y,Y,Y,Y,Y,Y,Y,Y,Y,Y,N,Y,N,N,N,N,N,N,N] rfl rfl (any_of HT_.out (by kernel_rfl)) (fun _ _ _ h => h) (Or.inl ⟨by rfl, ?_⟩) ?_ ?_; rotate_left
              ·intro w'; go_simp; with_reducible rfl
              rotate_left
              ·simp only [Act.put, sA,sB,sC, i64_w, i32_w]; rfl
              refine pure_ (i := 13) (N := some 67) (v := ?_) (a' := ?_) #[Y,Y,Y,Y,Y,Y,Y,Y,Y,Y,Y,N,Y,Y,N,N,N,N,N,N] rfl rfl (any_of HT_.out (by kernel_rfl)) (fun _ _ _ h => h) (Or.inl ⟨by rfl, ?_⟩) ?_ ?_; rotate_left
              ·intro w'; go_simp; with_reducible rfl
              rotate_left
              ·simp only [Act.put, sA,sB,sC, i64_w, i32_w]; rfl
              refine pure_ (i := 14) (N := some 68) (v := ?_) (a' := ?_) #[Y,Y,Y,Y,Y,Y,Y,Y,Y,Y,Y,N,Y,Y,Y,N,N,N,N,N] rfl rfl (any_of HT_.out (by kernel_rfl)) (fun _ _ _ h => h) (Or.inl ⟨by rfl, ?_⟩) ?_ ?_; rotate_left
              ·intro w'; go_simp; with_reducible rfl
              rotate_left
              ·simp only [Act.put, sA,sB,sC, i64_w, i32_w]; rfl
              refine pure_ (i := 15) (N := some 69) (v := ?_) (a' := ?_) #[Y,Y,Y,Y,Y,Y,Y,Y,Y,Y,Y,N,Y,Y,Y,Y,N,N,N,N] rfl rfl (any_of HT_.out (by kernel_rfl)) (fun _ _ _ h => h) (Or.inl ⟨by rfl, ?_⟩) ?_ ?_; rotate_left
              ·intro w'; go_simp; with_reducible rfl
              rotate_left
              ·simp only [Act.put, sA,sB,sC, i64_w, i32_w]; rfl
              refine take_ (i := 11) (N := some 65) (v := ?_) (a' := ?_) #[Y,Y,Y,Y,Y,Y,Y,Y,Y,Y,Y,Y,Y,Y,Y,Y,N,N,N,N] rfl rfl (take_ofW HT_.out HW_.out (by kernel_rfl)) (fun _ _ _ h => h) (Or.inl ⟨by rfl, ?_⟩) hHeld ?_ ?_; rotate_left
              ·rintro w' ⟨s0, s1⟩; go_simp; with_reducible rfl
              rotate_left
              ·simp only [Act.put, sA,sB,sC, i64_w, i32_w]; rfl
              refine take_ (i := 16) (N := some 70) (v := ?_) (a' := ?_) #[Y,Y,Y,Y,Y,Y,Y,Y,Y,Y,Y,Y,Y,Y,Y,Y,Y,N,N,N] rfl rfl (take_ofW HT_.out HW_.out (by kernel_rfl)) (fun _ _ _ h => h) (Or.inl ⟨by rfl, ?_⟩) hHeld ?_ ?_; rotate_left
              ·rintro w' ⟨s0, s1⟩; go_simp; with_reducible rfl
              rotate_left
              ·simp only [Act.put, sA,sB,sC, i64_w, i32_w]; rfl
              refine pure_ (i := 17) (N := some 71) (v := ?_) (a' := ?_) #[Y,Y,Y,Y,Y,Y,Y,Y,Y,Y,Y,Y,Y,Y,Y,Y,Y,Y,N,N] rfl rfl (any_of HT_.out (by kernel_rfl)) (fun _ _ _ h => h) (Or.inl ⟨by rfl, ?_⟩) ?_ ?_; rotate_left
              ·intro w'; go_simp; with_reducible rfl
              rotate_left
              ·simp only [Act.put, sA,sB,sC, i64_w, i32_w]; rfl
              refine pure_ (i := 18) (N := some 72) (v := ?_) (a' := ?_) #[Y,Y,Y,Y,Y,Y,Y,Y,Y,Y,Y,Y,Y,Y,Y,Y,Y,Y,Y,N] rfl rfl (any_of HT_.out (by kernel_rfl)) (fun _ _ _ h => h) (Or.inl ⟨by rfl, ?_⟩) ?_ ?_; rotate_left
              ·intro w'; go_simp; with_reducible rfl
              rotate_left
              ·simp only [Act.put, sA,sB,sC, i64_w, i32_w]; rfl
              refine pure_ (i := 19) (N := some 53) (v := ?_) (a' := ?_) #[Y,Y,Y,Y,Y,Y,Y,Y,Y,Y,Y,Y,Y,Y,Y,Y,Y,Y,Y,Y] rfl rfl (any_of HT_.out (by kernel_rfl)) (fun _ _ _ h => h) (Or.inl ⟨by rfl, ?_⟩) ?_ ?_; rotate_left
              ·intro w'; go_simp; with_reducible rfl
              rotate_left
              ·simp only [Act.put, sA,sB,sC, i64_w, i32_w]; rfl
              refine done_ (done_of HT_.out (by kernel_rfl)) ?_
              try go_wp2
              go_meet
              case rel => exact ⟨_, (((rd l0 (ji29)) == (rd l1 (ji32)))), (by first | rfl | (simp; done) | (simp only [← hji29, ← hji32] <;> (first | rfl | simp)) | (simp [*]; done)), H', ⟨by have := HK1.out; have := HJ15.out; first | omega | exact Nat.le_refl _⟩, ⟨by (with_reducible repeat (first | apply Kd.R_alloc | apply Kd.R_drewN | apply Kd.R_drew)); exact HO_367001.out⟩, ⟨by (with_reducible repeat (first | refine blk_drewN ?_ _ | refine blk_drew ?_ | refine blk_alloc ?_ _)); exact BK364.out⟩, ⟨by (with_reducible repeat (first | refine blk_drewN ?_ _ | refine blk_drew ?_ | refine blk_alloc ?_ _)); exact BK365.out⟩, ⟨by (with_reducible repeat (first | refine blk_drewN ?_ _ | refine blk_drew ?_ | refine blk_alloc ?_ _)); exact BK366.out⟩, ⟨by repeat (first | (with_reducible first | exact HB.out | apply below_alloc | apply pw_below_drewN | apply below_drew1 | refine below_set ?_ GE364.out | refine below_set ?_ GE365.out | refine below_set ?_ GE366.out) | exact HB.out)⟩⟩
             ·rw [if_neg c34] at H
              exact absurd H (by simp)
            ·rw [if_neg c33] at H
             exact absurd H (by simp)
           ·rw [if_neg c31] at H
            exact absurd H (by simp)
          ·rw [if_neg c30] at H
           exact absurd H (by simp)
         ·rw [if_neg c28] at H
          have c28b0 : decide (0 < x16_1) = false := decide_eq_false c28
          clear c28
          have H' := Aside0.mk H
          clear H
          try go_wp2
          have n0_ := Aside0.mk (Kd.R_drew HO_367001.out)
          have n1_ := Aside0.mk (blk_drew BK364.out)
          have n2_ := Aside0.mk (blk_drew BK365.out)
          have n3_ := Aside0.mk (blk_drew BK366.out)
          have n4_ := Aside0.mk (below_drew1 HB.out)
          clear HO_367001
          clear BK364
          clear BK365
          clear BK366
          clear HB
          have HO_367001 := n0_
          have BK364 := n1_
          have BK365 := n2_
          have BK366 := n3_
          have HB := n4_
          clear n0_ n1_ n2_ n3_ n4_
          refine start_ (n := 20) (S := fun w' => True) (ds := []) #[N,N,N,N,N,N,N,N,N,N,N,N,N,N,N,N,N,N,N,N] (by kernel_rfl) rfl rfl trivial (fun hHeld => ?_); refine with_tabW band_next.tab10 band_next.bits10 (fun HT_ HW_ => ?_)
          generalize wc.drew = w36 at HO_367001 BK364 BK365 BK366 HB hHeld ⊢
          refine pure_ (i := 0) (N := some 54) (v := ?_) (a' := ?_) #[Y,N,N,N,N,N,N,N,N,N,N,N,N,N,N,N,N,N,N,N] rfl rfl (any_of HT_.out (by kernel_rfl)) (fun _ _ _ h => h) (Or.inl ⟨by rfl, ?_⟩) ?_ ?_; rotate_left
          ·intro w'; go_simp; with_reducible rfl
          rotate_left
          ·simp only [Act.put, sA,sB,sC, i64_w, i32_w]; rfl
          refine pure_ (i := 1) (N := some 55) (v := ?_) (a' := ?_) #[Y,Y,N,N,N,N,N,N,N,N,N,N,N,N,N,N,N,N,N,N] rfl rfl (any_of HT_.out (by kernel_rfl)) (fun _ _ _ h => h) (Or.inl ⟨by rfl, ?_⟩) ?_ ?_; rotate_left
          ·intro w'; go_simp; with_reducible rfl
          rotate_left
          ·simp only [Act.put, sA,sB,sC, i64_w, i32_w]; rfl
          refine pure_ (i := 2) (N := some 56) (v := ?_) (a' := ?_) #[Y,Y,Y,N,N,N,N,N,N,N,N,N,N,N,N,N,N,N,N,N] rfl rfl (any_of HT_.out (by kernel_rfl)) (fun _ _ _ h => h) (Or.inl ⟨by rfl, ?_⟩) ?_ ?_; rotate_left
          ·intro w'; go_simp; with_reducible rfl
          rotate_left
          ·simp only [Act.put, sA,sB,sC, i64_w, i32_w]; rfl
          refine pure_ (i := 3) (N := some 57) (v := ?_) (a' := ?_) #[Y,Y,Y,Y,N,N,N,N,N,N,N,N,N,N,N,N,N,N,N,N] rfl rfl (any_of HT_.out (by kernel_rfl)) (fun _ _ _ h => h) (Or.inl ⟨by rfl, ?_⟩) ?_ ?_; rotate_left
          ·intro w'; go_simp; with_reducible rfl
          rotate_left
          ·simp only [Act.put, sA,sB,sC, i64_w, i32_w]; rfl
          refine pure_ (i := 4) (N := some 58) (v := ?_) (a' := ?_) #[Y,Y,Y,Y,Y,N,N,N,N,N,N,N,N,N,N,N,N,N,N,N] rfl rfl (any_of HT_.out (by kernel_rfl)) (fun _ _ _ h => h) (Or.inl ⟨by rfl, ?_⟩) ?_ ?_; rotate_left
          ·intro w'; go_simp; with_reducible rfl
          rotate_left
          ·simp only [Act.put, sA,sB,sC, i64_w, i32_w]; rfl
          refine pure_ (i := 5) (N := some 59) (v := ?_) (a' := ?_) #[Y,Y,Y,Y,Y,Y,N,N,N,N,N,N,N,N,N,N,N,N,N,N] rfl rfl (any_of HT_.out (by kernel_rfl)) (fun _ _ _ h => h) (Or.inl ⟨by rfl, ?_⟩) ?_ ?_; rotate_left
          ·intro w'; go_simp; with_reducible rfl
          rotate_left
          ·simp only [Act.put, sA,sB,sC, i64_w, i32_w]; rfl
          refine pure_ (i := 6) (N := some 60) (v := ?_) (a' := ?_) #[Y,Y,Y,Y,Y,Y,Y,N,N,N,N,N,N,N,N,N,N,N,N,N] rfl rfl (any_of HT_.out (by kernel_rfl)) (fun _ _ _ h => h) (Or.inl ⟨by rfl, ?_⟩) ?_ ?_; rotate_left
          ·intro w'; go_simp; with_reducible rfl
          rotate_left
          ·simp only [Act.put, sA,sB,sC, i64_w, i32_w]; rfl
          refine pure_ (i := 7) (N := some 61) (v := undef) (a' := ?_) #[Y,Y,Y,Y,Y,Y,Y,Y,N,N,N,N,N,N,N,N,N,N,N,N] rfl rfl (any_of HT_.out (by kernel_rfl)) (fun _ _ _ h => h) (Or.inr ⟨by rfl, rfl⟩) ?_ ?_; rotate_left
          ·simp only [Act.put, sA,sB,sC, i64_w, i32_w]; rfl
          refine pure_ (i := 8) (N := some 62) (v := undef) (a' := ?_) #[Y,Y,Y,Y,Y,Y,Y,Y,Y,N,N,N,N,N,N,N,N,N,N,N] rfl rfl (any_of HT_.out (by kernel_rfl)) (fun _ _ _ h => h) (Or.inr ⟨by rfl, rfl⟩) ?_ ?_; rotate_left
          ·simp only [Act.put, sA,sB,sC, i64_w, i32_w]; rfl
          refine pure_ (i := 9) (N := some 63) (v := undef) (a' := ?_) #[Y,Y,Y,Y,Y,Y,Y,Y,Y,Y,N,N,N,N,N,N,N,N,N,N] rfl rfl (any_of HT_.out (by kernel_rfl)) (fun _ _ _ h => h) (Or.inr ⟨by rfl, rfl⟩) ?_ ?_; rotate_left
          ·simp only [Act.put, sA,sB,sC, i64_w, i32_w]; rfl
          refine pure_ (i := 10) (N := some 64) (v := undef) (a' := ?_) #[Y,Y,Y,Y,Y,Y,Y,Y,Y,Y,Y,N,N,N,N,N,N,N,N,N] rfl rfl (any_of HT_.out (by kernel_rfl)) (fun _ _ _ h => h) (Or.inr ⟨by rfl, rfl⟩) ?_ ?_; rotate_left
          ·simp only [Act.put, sA,sB,sC, i64_w, i32_w]; rfl
          refine pure_ (i := 11) (N := some 65) (v := undef) (a' := ?_) #[Y,Y,Y,Y,Y,Y,Y,Y,Y,Y,Y,Y,N,N,N,N,N,N,N,N] rfl rfl (any_of HT_.out (by kernel_rfl)) (fun _ _ _ h => h) (Or.inr ⟨by rfl, rfl⟩) ?_ ?_; rotate_left
          ·simp only [Act.put, sA,sB,sC, i64_w, i32_w]; rfl
          refine pure_ (i := 12) (N := some 66) (v := undef) (a' := ?_) #[Y,Y,Y,Y,Y,Y,Y,Y,Y,Y,Y,Y,Y,N,N,N,N,N,N,N] rfl rfl (any_of HT_.out (by kernel_rfl)) (fun _ _ _ h => h) (Or.inr ⟨by rfl, rfl⟩) ?_ ?_; rotate_left
          ·simp only [Act.put, sA,sB,sC, i64_w, i32_w]; rfl
          refine pure_ (i := 13) (N := some 67) (v := undef) (a' := ?_) #[Y,Y,Y,Y,Y,Y,Y,Y,Y,Y,Y,Y,Y,Y,N,N,N,N,N,N] rfl rfl (any_of HT_.out (by kernel_rfl)) (fun _ _ _ h => h) (Or.inr ⟨by rfl, rfl⟩) ?_ ?_; rotate_left
          ·simp only [Act.put, sA,sB,sC, i64_w, i32_w]; rfl
          refine pure_ (i := 14) (N := some 68) (v := undef) (a' := ?_) #[Y,Y,Y,Y,Y,Y,Y,Y,Y,Y,Y,Y,Y,Y,Y,N,N,N,N,N] rfl rfl (any_of HT_.out (by kernel_rfl)) (fun _ _ _ h => h) (Or.inr ⟨by rfl, rfl⟩) ?_ ?_; rotate_left
          ·simp only [Act.put, sA,sB,sC, i64_w, i32_w]; rfl
          refine pure_ (i := 15) (N := some 69) (v := undef) (a' := ?_) #[Y,Y,Y,Y,Y,Y,Y,Y,Y,Y,Y,Y,Y,Y,Y,Y,N,N,N,N] rfl rfl (any_of HT_.out (by kernel_rfl)) (fun _ _ _ h => h) (Or.inr ⟨by rfl, rfl⟩) ?_ ?_; rotate_left
          ·simp only [Act.put, sA,sB,sC, i64_w, i32_w]; rfl
          refine pure_ (i := 16) (N := some 70) (v := undef) (a' := ?_) #[Y,Y,Y,Y,Y,Y,Y,Y,Y,Y,Y,Y,Y,Y,Y,Y,Y,N,N,N] rfl rfl (any_of HT_.out (by kernel_rfl)) (fun _ _ _ h => h) (Or.inr ⟨by rfl, rfl⟩) ?_ ?_; rotate_left
          ·simp only [Act.put, sA,sB,sC, i64_w, i32_w]; rfl
          refine pure_ (i := 17) (N := some 71) (v := undef) (a' := ?_) #[Y,Y,Y,Y,Y,Y,Y,Y,Y,Y,Y,Y,Y,Y,Y,Y,Y,Y,N,N] rfl rfl (any_of HT_.out (by kernel_rfl)) (fun _ _ _ h => h) (Or.inr ⟨by rfl, rfl⟩) ?_ ?_; rotate_left
          ·simp only [Act.put, sA,sB,sC, i64_w, i32_w]; rfl
          refine pure_ (i := 18) (N := some 72) (v := ?_) (a' := ?_) #[Y,Y,Y,Y,Y,Y,Y,Y,Y,Y,Y,Y,Y,Y,Y,Y,Y,Y,Y,N] rfl rfl (any_of HT_.out (by kernel_rfl)) (fun _ _ _ h => h) (Or.inl ⟨by rfl, ?_⟩) ?_ ?_; rotate_left
          ·intro w'; go_simp; with_reducible rfl
          rotate_left
          ·simp only [Act.put, sA,sB,sC, i64_w, i32_w]; rfl
          refine pure_ (i := 19) (N := some 53) (v := ?_) (a' := ?_) #[Y,Y,Y,Y,Y,Y,Y,Y,Y,Y,Y,Y,Y,Y,Y,Y,Y,Y,Y,Y] rfl rfl (any_of HT_.out (by kernel_rfl)) (fun _ _ _ h => h) (Or.inl ⟨by rfl, ?_⟩) ?_ ?_; rotate_left
          ·intro w'; go_simp; with_reducible rfl
          rotate_left
          ·simp only [Act.put, sA,sB,sC, i64_w, i32_w]; rfl
          refine done_ (done_of HT_.out (by kernel_rfl)) ?_
          try go_wp2
          go_meet
          case rel => exact ⟨_, (false), (by first | rfl | (simp; done) | (simp [*]; done)), H', ⟨by have := HK1.out; have := HJ15.out; first | omega | exact Nat.le_refl _⟩, ⟨by (with_reducible repeat (first | apply Kd.R_alloc | apply Kd.R_drewN | apply Kd.R_drew)); exact HO_367001.out⟩, ⟨by (with_reducible repeat (first | refine blk_drewN ?_ _ | refine blk_drew ?_ | refine blk_alloc ?_ _)); exact BK364.out⟩, ⟨by (with_reducible repeat (first | refine blk_drewN ?_ _ | refine blk_drew ?_ | refine blk_alloc ?_ _)); exact BK365.out⟩, ⟨by (with_reducible repeat (first | refine blk_drewN ?_ _ | refine blk_drew ?_ | refine blk_alloc ?_ _)); exact BK366.out⟩, ⟨by repeat (first | (with_reducible first | exact HB.out | apply below_alloc | apply pw_below_drewN | apply below_drew1 | refine below_set ?_ GE364.out | refine below_set ?_ GE365.out | refine below_set ?_ GE366.out) | exact HB.out)⟩⟩
        ·rw [if_neg c27] at H
         have c27b0 : decide (0 < a2) = false := decide_eq_false c27
         clear c27
         (first | rw [c27b0] | (simp only [i64_w, i32_w]; rw [c27b0]) | skip)
         have H' := Aside0.mk H
         clear H
         try go_wp2
         have n0_ := Aside0.mk (Kd.R_drew HO_367001.out)
         have n1_ := Aside0.mk (blk_drew BK364.out)
         have n2_ := Aside0.mk (blk_drew BK365.out)
         have n3_ := Aside0.mk (blk_drew BK366.out)
         have n4_ := Aside0.mk (below_drew1 HB.out)
         clear HO_367001
         clear BK364
         clear BK365
         clear BK366
         clear HB
         have HO_367001 := n0_
         have BK364 := n1_
         have BK365 := n2_
         have BK366 := n3_
         have HB := n4_
         clear n0_ n1_ n2_ n3_ n4_
         refine start_ (n := 20) (S := fun w' => True) (ds := []) #[N,N,N,N,N,N,N,N,N,N,N,N,N,N,N,N,N,N,N,N] (by kernel_rfl) rfl rfl trivial (fun hHeld => ?_); refine with_tabW band_next.tab10 band_next.bits10 (fun HT_ HW_ => ?_)
         generalize wc.drew = w37 at HO_367001 BK364 BK365 BK366 HB hHeld ⊢
         refine pure_ (i := 0) (N := some 54) (v := ?_) (a' := ?_) #[Y,N,N,N,N,N,N,N,N,N,N,N,N,N,N,N,N,N,N,N] rfl rfl (any_of HT_.out (by kernel_rfl)) (fun _ _ _ h => h) (Or.inl ⟨by rfl, ?_⟩) ?_ ?_; rotate_left
         ·intro w'; go_simp; with_reducible rfl
         rotate_left
         ·simp only [Act.put, sA,sB,sC, i64_w, i32_w]; rfl
         refine pure_ (i := 1) (N := some 55) (v := ?_) (a' := ?_) #[Y,Y,N,N,N,N,N,N,N,N,N,N,N,N,N,N,N,N,N,N] rfl rfl (any_of HT_.out (by kernel_rfl)) (fun _ _ _ h => h) (Or.inl ⟨by rfl, ?_⟩) ?_ ?_; rotate_left
         ·intro w'; go_simp; with_reducible rfl
         rotate_left
         ·simp only [Act.put, sA,sB,sC, i64_w, i32_w]; rfl
         refine pure_ (i := 2) (N := some 56) (v := ?_) (a' := ?_) #[Y,Y,Y,N,N,N,N,N,N,N,N,N,N,N,N,N,N,N,N,N] rfl rfl (any_of HT_.out (by kernel_rfl)) (fun _ _ _ h => h) (Or.inl ⟨by rfl, ?_⟩) ?_ ?_; rotate_left
         ·intro w'; go_simp; with_reducible rfl
         rotate_left
         ·simp only [Act.put, sA,sB,sC, i64_w, i32_w]; rfl
         refine pure_ (i := 3) (N := some 57) (v := undef) (a' := ?_) #[Y,Y,Y,Y,N,N,N,N,N,N,N,N,N,N,N,N,N,N,N,N] rfl rfl (any_of HT_.out (by kernel_rfl)) (fun _ _ _ h => h) (Or.inr ⟨by rfl, rfl⟩) ?_ ?_; rotate_left
         ·simp only [Act.put, sA,sB,sC, i64_w, i32_w]; rfl
         refine pure_ (i := 4) (N := some 58) (v := undef) (a' := ?_) #[Y,Y,Y,Y,Y,N,N,N,N,N,N,N,N,N,N,N,N,N,N,N] rfl rfl (any_of HT_.out (by kernel_rfl)) (fun _ _ _ h => h) (Or.inr ⟨by rfl, rfl⟩) ?_ ?_; rotate_left
         ·simp only [Act.put, sA,sB,sC, i64_w, i32_w]; rfl
         refine pure_ (i := 5) (N := some 59) (v := ?_) (a' := ?_) #[Y,Y,Y,Y,Y,Y,N,N,N,N,N,N,N,N,N,N,N,N,N,N] rfl rfl (any_of HT_.out (by kernel_rfl)) (fun _ _ _ h => h) (Or.inl ⟨by rfl, ?_⟩) ?_ ?_; rotate_left
         ·intro w'; go_simp; with_reducible rfl
         rotate_left
         ·simp only [Act.put, sA,sB,sC, i64_w, i32_w]; rfl
         refine pure_ (i := 6) (N := some 60) (v := ?_) (a' := ?_) #[Y,Y,Y,Y,Y,Y,Y,N,N,N,N,N,N,N,N,N,N,N,N,N] rfl rfl (any_of HT_.out (by kernel_rfl)) (fun _ _ _ h => h) (Or.inl ⟨by rfl, ?_⟩) ?_ ?_; rotate_left
         ·intro w'; go_simp; with_reducible rfl
         rotate_left
         ·simp only [Act.put, sA,sB,sC, i64_w, i32_w]; rfl
         refine pure_ (i := 7) (N := some 61) (v := undef) (a' := ?_) #[Y,Y,Y,Y,Y,Y,Y,Y,N,N,N,N,N,N,N,N,N,N,N,N] rfl rfl (any_of HT_.out (by kernel_rfl)) (fun _ _ _ h => h) (Or.inr ⟨by rfl, rfl⟩) ?_ ?_; rotate_left
         ·simp only [Act.put, sA,sB,sC, i64_w, i32_w]; rfl
         refine pure_ (i := 8) (N := some 62) (v := undef) (a' := ?_) #[Y,Y,Y,Y,Y,Y,Y,Y,Y,N,N,N,N,N,N,N,N,N,N,N] rfl rfl (any_of HT_.out (by kernel_rfl)) (fun _ _ _ h => h) (Or.inr ⟨by rfl, rfl⟩) ?_ ?_; rotate_left
         ·simp only [Act.put, sA,sB,sC, i64_w, i32_w]; rfl
         refine pure_ (i := 9) (N := some 63) (v := undef) (a' := ?_) #[Y,Y,Y,Y,Y,Y,Y,Y,Y,Y,N,N,N,N,N,N,N,N,N,N] rfl rfl (any_of HT_.out (by kernel_rfl)) (fun _ _ _ h => h) (Or.inr ⟨by rfl, rfl⟩) ?_ ?_; rotate_left
         ·simp only [Act.put, sA,sB,sC, i64_w, i32_w]; rfl
         refine pure_ (i := 10) (N := some 64) (v := undef) (a' := ?_) #[Y,Y,Y,Y,Y,Y,Y,Y,Y,Y,Y,N,N,N,N,N,N,N,N,N] rfl rfl (any_of HT_.out (by kernel_rfl)) (fun _ _ _ h => h) (Or.inr ⟨by rfl, rfl⟩) ?_ ?_; rotate_left
         ·simp only [Act.put, sA,sB,sC, i64_w, i32_w]; rfl
         refine pure_ (i := 11) (N := some 65) (v := undef) (a' := ?_) #[Y,Y,Y,Y,Y,Y,Y,Y,Y,Y,Y,Y,N,N,N,N,N,N,N,N] rfl rfl (any_of HT_.out (by kernel_rfl)) (fun _ _ _ h => h) (Or.inr ⟨by rfl, rfl⟩) ?_ ?_; rotate_left
         ·simp only [Act.put, sA,sB,sC, i64_w, i32_w]; rfl
         refine pure_ (i := 12) (N := some 66) (v := undef) (a' := ?_) #[Y,Y,Y,Y,Y,Y,Y,Y,Y,Y,Y,Y,Y,N,N,N,N,N,N,N] rfl rfl (any_of HT_.out (by kernel_rfl)) (fun _ _ _ h => h) (Or.inr ⟨by rfl, rfl⟩) ?_ ?_; rotate_left
         ·simp only [Act.put, sA,sB,sC, i64_w, i32_w]; rfl
         refine pure_ (i := 13) (N := some 67) (v := undef) (a' := ?_) #[Y,Y,Y,Y,Y,Y,Y,Y,Y,Y,Y,Y,Y,Y,N,N,N,N,N,N] rfl rfl (any_of HT_.out (by kernel_rfl)) (fun _ _ _ h => h) (Or.inr ⟨by rfl, rfl⟩) ?_ ?_; rotate_left
         ·simp only [Act.put, sA,sB,sC, i64_w, i32_w]; rfl
         refine pure_ (i := 14) (N := some 68) (v := undef) (a' := ?_) #[Y,Y,Y,Y,Y,Y,Y,Y,Y,Y,Y,Y,Y,Y,Y,N,N,N,N,N] rfl rfl (any_of HT_.out (by kernel_rfl)) (fun _ _ _ h => h) (Or.inr ⟨by rfl, rfl⟩) ?_ ?_; rotate_left
         ·simp only [Act.put, sA,sB,sC, i64_w, i32_w]; rfl
         refine pure_ (i := 15) (N := some 69) (v := undef) (a' := ?_) #[Y,Y,Y,Y,Y,Y,Y,Y,Y,Y,Y,Y,Y,Y,Y,Y,N,N,N,N] rfl rfl (any_of HT_.out (by kernel_rfl)) (fun _ _ _ h => h) (Or.inr ⟨by rfl, rfl⟩) ?_ ?_; rotate_left
         ·simp only [Act.put, sA,sB,sC, i64_w, i32_w]; rfl
         refine pure_ (i := 16) (N := some 70) (v := undef) (a' := ?_) #[Y,Y,Y,Y,Y,Y,Y,Y,Y,Y,Y,Y,Y,Y,Y,Y,Y,N,N,N] rfl rfl (any_of HT_.out (by kernel_rfl)) (fun _ _ _ h => h) (Or.inr ⟨by rfl, rfl⟩) ?_ ?_; rotate_left
         ·simp only [Act.put, sA,sB,sC, i64_w, i32_w]; rfl
         refine pure_ (i := 17) (N := some 71) (v := undef) (a' := ?_) #[Y,Y,Y,Y,Y,Y,Y,Y,Y,Y,Y,Y,Y,Y,Y,Y,Y,Y,N,N] rfl rfl (any_of HT_.out (by kernel_rfl)) (fun _ _ _ h => h) (Or.inr ⟨by rfl, rfl⟩) ?_ ?_; rotate_left
         ·simp only [Act.put, sA,sB,sC, i64_w, i32_w]; rfl
         refine pure_ (i := 18) (N := some 72) (v := ?_) (a' := ?_) #[Y,Y,Y,Y,Y,Y,Y,Y,Y,Y,Y,Y,Y,Y,Y,Y,Y,Y,Y,N] rfl rfl (any_of HT_.out (by kernel_rfl)) (fun _ _ _ h => h) (Or.inl ⟨by rfl, ?_⟩) ?_ ?_; rotate_left
         ·intro w'; go_simp; with_reducible rfl
         rotate_left
         ·simp only [Act.put, sA,sB,sC, i64_w, i32_w]; rfl
         refine pure_ (i := 19) (N := some 53) (v := ?_) (a' := ?_) #[Y,Y,Y,Y,Y,Y,Y,Y,Y,Y,Y,Y,Y,Y,Y,Y,Y,Y,Y,Y] rfl rfl (any_of HT_.out (by kernel_rfl)) (fun _ _ _ h => h) (Or.inl ⟨by rfl, ?_⟩) ?_ ?_; rotate_left
         ·intro w'; go_simp; with_reducible rfl
         rotate_left
         ·simp only [Act.put, sA,sB,sC, i64_w, i32_w]; rfl
         refine done_ (done_of HT_.out (by kernel_rfl)) ?_
         try go_wp2
         go_meet
         case rel => exact ⟨_, (false), (by first | rfl | (simp; done) | (simp [*]; done)), H', ⟨by have := HK1.out; have := HJ15.out; first | omega | exact Nat.le_refl _⟩, ⟨by (with_reducible repeat (first | apply Kd.R_alloc | apply Kd.R_drewN | apply Kd.R_drew)); exact HO_367001.out⟩, ⟨by (with_reducible repeat (first | refine blk_drewN ?_ _ | refine blk_drew ?_ | refine blk_alloc ?_ _)); exact BK364.out⟩, ⟨by (with_reducible repeat (first | refine blk_drewN ?_ _ | refine blk_drew ?_ | refine blk_alloc ?_ _)); exact BK365.out⟩, ⟨by (with_reducible repeat (first | refine blk_drewN ?_ _ | refine blk_drew ?_ | refine blk_alloc ?_ _)); exact BK366.out⟩, ⟨by repeat (first | (with_reducible first | exact HB.out | apply below_alloc | apply pw_below_drewN | apply below_drew1 | refine below_set ?_ GE364.out | refine below_set ?_ GE365.out | refine below_set ?_ GE366.out) | exact HB.out)⟩⟩
       case rest =>
        clear HC26
        try clear c1
        try clear c2
        try clear p2
        try clear c3
        try clear p3
        try clear q3
        try clear hx3
        try clear c5
        try clear p6
        try clear c8
        try clear c12
        try clear c13
        try clear c15
        try clear c15b0
        try clear c17
        try clear c17b0
        try clear c17b1
        try clear c18
        try clear c19
        try clear c20
        try clear c21
        try clear c27
        try clear c27b0
        try clear c28
        try clear c28b0
        try clear c30
        try clear c30b0
        try clear c31
        try clear c31b0
        try clear c33
        try clear c33b0
        try clear c34
        try clear c34b0
        try clear p37
        try clear q37
        try clear hx37
        try clear hcz14_0
        try clear hcz14_1
        try clear hcz22_0
        try clear hcz22_1
        try clear hcz25_0
        try clear hcz25_1
        try clear hfz14_0
        try clear hfz14_1
        try clear hfz22_0
        try clear hfz22_1
        try clear hfz25_0
        try clear hfz25_1
        try clear hx370_0
        try clear hx371_0
        try clear p2
        try clear p370
        try clear p371
        try clear p6
        try clear q370
        try clear q371
        obtain ⟨kq, x53_25, rfl, HA, HJ25, HO_367001, BK364, BK365, BK366, HB⟩ := hcut
        cases kq with
        | zero => exact absurd HA.out (by simp [band_next.j2])
        | succ kj25 =>
         have H := HA.out
         clear HA
         simp only [band_next.j2] at H
         by_cases c38 : x53_25 = true
         ·subst c38
          have H1 : ((band_line_at.f a5_0 l5_1 (wrap64 (x16_1 - 1))).bind fun t372 => (if x367001_1.length < 17592186044416 then (band_next.l0 kj25 l0 l1 a2 ji8 (wrap64 (x16_1 + 1)) a5_0 l5_1 ji7 (x367001_1 ++ [t372])) else (none))) = some (r1, r2) := by rw [if_pos rfl] at H; exact H
          clear H
          have H := H1
          clear H1
          replace H := Option.bind_eq_some_iff.mp H
          obtain ⟨t372, A390, H⟩ := H
          replace H : (if x367001_1.length < 17592186044416 then (band_next.l0 kj25 l0 l1 a2 ji8 (wrap64 (x16_1 + 1)) a5_0 l5_1 ji7 (x367001_1 ++ [t372])) else (none)) = some (r1, r2) := H
          have A39 := Aside0.mk A390
          clear A390
          by_cases c40 : x367001_1.length < 17592186044416
          ·rw [if_pos c40] at H
           have LMc40 := Aside0.mk c40
           clear c40
           obtain ⟨y373, hy373⟩ : ∃ y_ : List Int, y_ = (x367001_1 ++ [t372]) := ⟨_, rfl⟩
           replace H : (band_next.l0 kj25 l0 l1 a2 ji8 (wrap64 (x16_1 + 1)) a5_0 l5_1 ji7 y373) = some (r1, r2) := by first | (rw [hy373]; with_reducible exact H) | (have H2_ := (Option.bind_some _ _).symm.trans H; rw [hy373]; with_reducible exact H2_) | (have H2_ := (Option.bind_some _ _).symm.trans H; with_reducible exact H2_) | with_reducible exact H | (rw [hy373]; exact H) | exact H
           have Ny373 := Aside0.mk hy373
           clear hy373
           have H' := Aside0.mk H
           clear H
           have hnb41 := NB364_365.out
           have hnc41 := NB365_364.out
           have hnb42 := NB364_366.out
           have hnc42 := NB366_364.out
           have hcz43_0 : wc.cell? ⟨gb364, 0, none⟩ = some (.int .i64 a5_0) := (blk_cell BK364.out 0).trans rfl
           have hcz43_1 : wc.cell? ⟨gb364, 1, none⟩ = some (.slice A5_1 l5_1.length c5_1) := (blk_cell BK364.out 1).trans rfl
           have hfz43_0 := blk_frozen BK364.out 0
           have hfz43_1 := blk_frozen BK364.out 1
           go_wp2_with (first | ((first | (with_reducible refine gate_callee (f := 89) rfl ?_); refine goesL_ (some 76) rfl rfl Tryz.func89 (by kernel_rfl) rfl #[.agg #[.int .i64 a5_0, .slice A5_1 l5_1.length c5_1], .int .i64 (wrap64 (x16_1 - 1))] rfl (by (try simp only [List.map_toArray, List.map_cons, List.map_nil]); first | done | rfl | (simp only [List.length_drop, List.length_take]; rfl)) ?_ | go_at_call 89); (with_reducible refine (band_line_at.calls a5_0 _ _ l5_1 (wrap64 (x16_1 - 1)) t372 _ ?side1 ?side2 A39.out).mono ?_); (case side1 => repeat (first | exact (Kd.C_below HR5_1.out HB.out) | (with_reducible refine Kd.C_alloc ?_ _) | (with_reducible refine Kd.C_drewN ?_ _) | (with_reducible refine Kd.C_drew ?_))); (case side2 => exact HC5_1.out); rintro e w44 ⟨rfl, hb⟩; (try refine ⟨_, rfl, ?_⟩); have n0_ := Aside0.mk (Kd.R_below (by (with_reducible repeat (first | apply Kd.R_alloc | apply Kd.R_drewN | apply Kd.R_drew)); exact HO_367001.out) hb); have n1_ := Aside0.mk (blk_below (g := gb364) (o := .cells #[.int .i64 a5_0, .slice A5_1 l5_1.length c5_1] 129 (0, 0)) (by (with_reducible repeat (first | refine blk_drewN ?_ _ | refine blk_drew ?_ | refine blk_alloc ?_ _)); exact BK364.out) hb); have n2_ := Aside0.mk (blk_below (g := gb365) (o := .cells #[.int .i64 0, .slice none 0 0] 129 (0, 0)) (by (with_reducible repeat (first | refine blk_drewN ?_ _ | refine blk_drew ?_ | refine blk_alloc ?_ _)); exact BK365.out) hb); have n3_ := Aside0.mk (blk_below (g := gb366) (o := .cells #[.int .i64 ji7, u367001] 129 (0, 0)) (by (with_reducible repeat (first | refine blk_drewN ?_ _ | refine blk_drew ?_ | refine blk_alloc ?_ _)); exact BK366.out) hb); have n4_ := Aside0.mk (below_step (by repeat (first | (with_reducible first | exact HB.out | apply below_alloc | apply pw_below_drewN | apply below_drew1 | refine below_set ?_ GE364.out | refine below_set ?_ GE365.out | refine below_set ?_ GE366.out) | exact HB.out)) hb); clear HO_367001; clear BK364; clear BK365; clear BK366; clear HB; have HO_367001 := n0_; have BK364 := n1_; have BK365 := n2_; have BK366 := n3_; have HB := n4_; clear n0_ n1_ n2_ n3_ n4_; (try clear hb); (try clear hb2); (try clear hk); (try clear hi); have hnb45 := NB366_365.out; have hnc45 := NB365_366.out; have hcz46_0 : w44.cell? ⟨gb366, 0, none⟩ = some (.int .i64 ji7) := (blk_cell BK366.out 0).trans rfl; have hcz46_1 : w44.cell? ⟨gb366, 1, none⟩ = some (u367001) := (blk_cell BK366.out 1).trans rfl; have hfz46_0 := blk_frozen BK366.out 0; have hfz46_1 := blk_frozen BK366.out 1) | ((with_reducible refine gate_builtin (b := .append) (xs := #[.tmp 78, .tmp 80]) rfl ?_); at_builtin; refine Kd.R_append (Kd.int .i64) (w0 := w) w.heap.size rfl (.tmp 78) (.tmp 80) 25 3 (.int .i64 0) 8 rfl Tryz.underlying25 info3 rfl (by decide) (by omega) u367001 x367001_1 t372 [.int .i64 t372] (fun _ => True) (fun _ => False) rfl rfl ?aP (fun _ hk => hk.elim) ?aF ?aO ?aB ?aS ?aL ?_; (case aP => exact rfl); (case aB => exact (by repeat (first | (with_reducible first | exact HB.out | apply below_alloc | apply pw_below_drewN | apply below_drew1 | refine below_set ?_ GE364.out | refine below_set ?_ GE365.out | refine below_set ?_ GE366.out) | exact HB.out))); (case aF => exact (fun _ _ => trivial)); (case aO => exact (by (with_reducible repeat (first | apply Kd.R_alloc | apply Kd.R_drewN | apply Kd.R_drew)); exact HO_367001.out)); (case aS => exact (below_size (by repeat (first | (with_reducible first | exact HB.out | apply below_alloc | apply pw_below_drewN | apply below_drew1 | refine below_set ?_ GE364.out | refine below_set ?_ GE365.out | refine below_set ?_ GE366.out) | exact HB.out)))); (case aL => have := LMc40.out; omega); intro v374 w47 ho hb hg hat; rw [← Ny373.out] at ho; have n0_ := Aside0.mk (blk_grown (g := gb364) (o := .cells #[.int .i64 a5_0, .slice A5_1 l5_1.length c5_1] 129 (0, 0)) (by (with_reducible repeat (first | refine blk_drewN ?_ _ | refine blk_drew ?_ | refine blk_alloc ?_ _)); exact BK364.out) hg (Kd.R_ne HO_367001.out BK364.out (by decide))); have n1_ := Aside0.mk (blk_grown (g := gb365) (o := .cells #[.int .i64 0, .slice none 0 0] 129 (0, 0)) (by (with_reducible repeat (first | refine blk_drewN ?_ _ | refine blk_drew ?_ | refine blk_alloc ?_ _)); exact BK365.out) hg (Kd.R_ne HO_367001.out BK365.out (by decide))); have n2_ := Aside0.mk (blk_grown (g := gb366) (o := .cells #[.int .i64 ji7, u367001] 129 (0, 0)) (by (with_reducible repeat (first | refine blk_drewN ?_ _ | refine blk_drew ?_ | refine blk_alloc ?_ _)); exact BK366.out) hg (Kd.R_ne HO_367001.out BK366.out (by decide))); have n3_ := Aside0.mk (hb); have n4_ := Aside0.mk (ho); clear BK364; clear BK365; clear BK366; clear HB; clear HO_367001; have BK364 := n0_; have BK365 := n1_; have BK366 := n2_; have HB := n3_; have HO375 := n4_; clear n0_ n1_ n2_ n3_ n4_; (try clear ho); (try clear hb); (try clear hg); (try clear hat); obtain ⟨Ao48, co48, eo48⟩ := Kd.R_slice HO375.out; subst eo48; have hcz49_0 : w47.cell? ⟨gb366, 0, none⟩ = some (.int .i64 ji7) := (blk_cell BK366.out 0).trans rfl; have hcz49_1 : w47.cell? ⟨gb366, 1, none⟩ = some (u367001) := (blk_cell BK366.out 1).trans rfl; have hfz49_0 := blk_frozen BK366.out 0; have hfz49_1 := blk_frozen BK366.out 1))
           go_roundg kj25
           case measure => have := HK1.out; have := HJ15.out; have := HJ25.out; omega
           case rel => exact ⟨(wrap64 (x16_1 + 1)), (y373), (.slice Ao48 y373.length co48), (by first | rfl | (simp; done) | (simp [*]; done)), H', ⟨by have := HK1.out; have := HJ15.out; have := HJ25.out; omega⟩, ⟨by (with_reducible repeat (first | apply Kd.R_alloc | apply Kd.R_drewN | apply Kd.R_drew)); exact Kd.R_mono (Kd.R_far (p := ⟨gb366, 1, none⟩) (Kd.R_types HO375.out BK366.out (by decide)) (fun _ hk => hk.2) (.slice Ao48 y373.length co48)) (fun _ hk => trivial)⟩, ⟨by (with_reducible repeat (first | refine blk_drewN ?_ _ | refine blk_drew ?_ | refine blk_alloc ?_ _)); refine blk_far ?_ NB364_366.out _; (with_reducible repeat (first | refine blk_drewN ?_ _ | refine blk_drew ?_ | refine blk_alloc ?_ _)); exact BK364.out⟩, ⟨by (with_reducible repeat (first | refine blk_drewN ?_ _ | refine blk_drew ?_ | refine blk_alloc ?_ _)); refine blk_far ?_ NB365_366.out _; (with_reducible repeat (first | refine blk_drewN ?_ _ | refine blk_drew ?_ | refine blk_alloc ?_ _)); exact BK365.out⟩, ⟨by (with_reducible repeat (first | refine blk_drewN ?_ _ | refine blk_drew ?_ | refine blk_alloc ?_ _)); refine blk_put (cs := #[.int .i64 ji7, u367001]) ?_ 1 _ rfl; (with_reducible repeat (first | refine blk_drewN ?_ _ | refine blk_drew ?_ | refine blk_alloc ?_ _)); exact BK366.out⟩, ⟨by repeat (first | (with_reducible first | exact HB.out | apply below_alloc | apply pw_below_drewN | apply below_drew1 | refine below_set ?_ GE364.out | refine below_set ?_ GE365.out | refine below_set ?_ GE366.out) | exact HB.out)⟩⟩
          ·rw [if_neg c40] at H
           exact absurd H (by simp)
         ·replace c38 := Bool.eq_false_iff.mpr c38
          subst c38
          have H1 : ((band_line_at.f a5_0 l5_1 x16_1).bind fun t376 => ((band_line_at.f ji7 x367001_1 (wrap64 (x16_1 - 1))).bind fun t377 => (if x367001_1.length < 17592186044416 then (band_next.l0 kj25 l0 l1 a2 ji8 (wrap64 (x16_1 + 1)) a5_0 l5_1 ji7 (x367001_1 ++ [mn (mn 1152921504606846976 (wrap64 (t376 + 1))) (wrap64 (t377 + 1))])) else (none)))) = some (r1, r2) := by rw [if_neg (show ¬ (false = true) by decide)] at H; exact H
          clear H
          have H := H1
          clear H1
          replace H := Option.bind_eq_some_iff.mp H
          obtain ⟨t376, A500, H⟩ := H
          replace H : ((band_line_at.f ji7 x367001_1 (wrap64 (x16_1 - 1))).bind fun t377 => (if x367001_1.length < 17592186044416 then (band_next.l0 kj25 l0 l1 a2 ji8 (wrap64 (x16_1 + 1)) a5_0 l5_1 ji7 (x367001_1 ++ [mn (mn 1152921504606846976 (wrap64 (t376 + 1))) (wrap64 (t377 + 1))])) else (none))) = some (r1, r2) := H
          have A50 := Aside0.mk A500
          clear A500
          replace H := Option.bind_eq_some_iff.mp H
          obtain ⟨t377, A510, H⟩ := H
          replace H : (if x367001_1.length < 17592186044416 then (band_next.l0 kj25 l0 l1 a2 ji8 (wrap64 (x16_1 + 1)) a5_0 l5_1 ji7 (x367001_1 ++ [mn (mn 1152921504606846976 (wrap64 (t376 + 1))) (wrap64 (t377 + 1))])) else (none)) = some (r1, r2) := H
          have A51 := Aside0.mk A510
          clear A510
          obtain ⟨ji52, hji52⟩ : ∃ j_ : Int, (mn 1152921504606846976 (wrap64 (t376 + 1))) = j_ := ⟨_, rfl⟩
          replace H : (if x367001_1.length < 17592186044416 then (band_next.l0 kj25 l0 l1 a2 ji8 (wrap64 (x16_1 + 1)) a5_0 l5_1 ji7 (x367001_1 ++ [mn (ji52) (wrap64 (t377 + 1))])) else (none)) = some (r1, r2) := by first | (rw [hji52] at H; exact H) | (simp only [hji52] at H ⊢; exact H)
          (try rw [hji52] at A50)
          (try rw [hji52] at A51)
          (try (have hji52h : ji52 ≤ 1152921504606846976 := by (rw [← hji52]; unfold mn; (repeat' split) <;> omega)))
          (try (have hji52g : ji52 ≤ 64 := by omega))
          have hji52_ : (if (wrap64 (t376 + 1)) < 1152921504606846976 then (wrap64 (t376 + 1)) else 1152921504606846976) = ji52 := hji52
          obtain ⟨ji53, hji53⟩ : ∃ j_ : Int, (mn (ji52) (wrap64 (t377 + 1))) = j_ := ⟨_, rfl⟩
          replace H : (if x367001_1.length < 17592186044416 then (band_next.l0 kj25 l0 l1 a2 ji8 (wrap64 (x16_1 + 1)) a5_0 l5_1 ji7 (x367001_1 ++ [ji53])) else (none)) = some (r1, r2) := by first | (rw [hji53] at H; exact H) | (simp only [hji53] at H ⊢; exact H)
          (try rw [hji53] at A50)
          (try rw [hji53] at A51)
          have hji53_ : (if (wrap64 (t377 + 1)) < (ji52) then (wrap64 (t377 + 1)) else (ji52)) = ji53 := hji53
          by_cases c54 : x367001_1.length < 17592186044416
          ·rw [if_pos c54] at H
           have LMc54 := Aside0.mk c54
           clear c54
           obtain ⟨y378, hy378⟩ : ∃ y_ : List Int, y_ = (x367001_1 ++ [ji53]) := ⟨_, rfl⟩
           replace H : (band_next.l0 kj25 l0 l1 a2 ji8 (wrap64 (x16_1 + 1)) a5_0 l5_1 ji7 y378) = some (r1, r2) := by first | (rw [hy378]; with_reducible exact H) | (have H2_ := (Option.bind_some _ _).symm.trans H; rw [hy378]; with_reducible exact H2_) | (have H2_ := (Option.bind_some _ _).symm.trans H; with_reducible exact H2_) | with_reducible exact H | (rw [hy378]; exact H) | exact H
           have Ny378 := Aside0.mk hy378
           clear hy378
           have H' := Aside0.mk H
           clear H
           try go_wp2
           have n0_ := Aside0.mk (Kd.R_drew HO_367001.out)
           have n1_ := Aside0.mk (blk_drew BK364.out)
           have n2_ := Aside0.mk (blk_drew BK365.out)
           have n3_ := Aside0.mk (blk_drew BK366.out)
           have n4_ := Aside0.mk (below_drew1 HB.out)
           clear HO_367001
           clear BK364
           clear BK365
           clear BK366
           clear HB
           have HO_367001 := n0_
           have BK364 := n1_
           have BK365 := n2_
           have BK366 := n3_
           have HB := n4_
           clear n0_ n1_ n2_ n3_ n4_
           refine start_ (n := 11) (S := fun w' => w'.cell? ⟨gb364, 0, none⟩ = some (.int .i64 a5_0) ∧ w'.cell? ⟨gb364, 1, none⟩ = some (.slice A5_1 l5_1.length c5_1) ∧ w'.cell? ⟨gb366, 0, none⟩ = some (.int .i64 ji7) ∧ w'.cell? ⟨gb366, 1, none⟩ = some (u367001)) (ds := []) #[N,N,N,N,N,N,N,N,N,N,N] (by kernel_rfl) rfl rfl ⟨(blk_cell BK364.out 0).trans rfl, (blk_cell BK364.out 1).trans rfl, (blk_cell BK366.out 0).trans rfl, (blk_cell BK366.out 1).trans rfl⟩ (fun hHeld => ?_); refine with_tabW band_next.tab7 band_next.bits7 (fun HT_ HW_ => ?_)
           generalize wc.drew = w55 at HO_367001 BK364 BK365 BK366 HB hHeld ⊢
           refine pure_ (i := 1) (N := some 37) (v := ?_) (a' := ?_) #[N,Y,N,N,N,N,N,N,N,N,N] rfl rfl (any_of HT_.out (by kernel_rfl)) (fun _ _ _ h => h) (Or.inl ⟨by rfl, ?_⟩) ?_ ?_; rotate_left
           ·intro w'; go_simp; with_reducible rfl
           rotate_left
           ·simp only [Act.put, sA,sB,sC, i64_w, i32_w]; rfl
           refine pure_ (i := 5) (N := some 41) (v := ?_) (a' := ?_) #[N,Y,N,N,N,Y,N,N,N,N,N] rfl rfl (any_of HT_.out (by kernel_rfl)) (fun _ _ _ h => h) (Or.inl ⟨by rfl, ?_⟩) ?_ ?_; rotate_left
           ·intro w'; go_simp; with_reducible rfl
           rotate_left
           ·simp only [Act.put, sA,sB,sC, i64_w, i32_w]; rfl
           refine pure_ (i := 6) (N := some 42) (v := ?_) (a' := ?_) #[N,Y,N,N,N,Y,Y,N,N,N,N] rfl rfl (any_of HT_.out (by kernel_rfl)) (fun _ _ _ h => h) (Or.inl ⟨by rfl, ?_⟩) ?_ ?_; rotate_left
           ·intro w'; go_simp; with_reducible rfl
           rotate_left
           ·simp only [Act.put, sA,sB,sC, i64_w, i32_w]; rfl
           refine take_ (i := 0) (N := some 36) (v := ?_) (a' := ?_) #[Y,Y,N,N,N,Y,Y,N,N,N,N] rfl rfl (take_ofW HT_.out HW_.out (by kernel_rfl)) (fun _ _ _ h => h) (Or.inl ⟨by rfl, ?_⟩) hHeld ?_ ?_; rotate_left
           ·rintro w' ⟨s0, s1, s2, s3⟩; go_simp; with_reducible rfl
           rotate_left
           ·simp only [Act.put, sA,sB,sC, i64_w, i32_w]; rfl
           refine take_ (i := 4) (N := some 40) (v := ?_) (a' := ?_) #[Y,Y,N,N,Y,Y,Y,N,N,N,N] rfl rfl (take_ofW HT_.out HW_.out (by kernel_rfl)) (fun _ _ _ h => h) (Or.inl ⟨by rfl, ?_⟩) hHeld ?_ ?_; rotate_left
           ·rintro w' ⟨s0, s1, s2, s3⟩; go_simp; with_reducible rfl
           rotate_left
           ·simp only [Act.put, sA,sB,sC, i64_w, i32_w]; rfl
           refine one_ (i := 2) (N := some 38) #[Y,Y,Y,N,Y,Y,Y,N,N,N,N] rfl rfl (one_of HT_.out (by kernel_rfl)) (by decide) (fun K hK => ?_)
           refine goes_ Tryz.func89 (by kernel_rfl) rfl #[.agg #[.int .i64 a5_0, .slice A5_1 l5_1.length c5_1], .int .i64 x16_1] (by rfl) rfl rfl (by (try simp only [List.map_toArray, List.map_cons, List.map_nil]); first | done | rfl | (simp only [List.length_drop, List.length_take]; rfl)) ?_
           with_reducible refine (band_line_at.calls a5_0 _ _ l5_1 x16_1 t376 _ ?side1 ?side2 A50.out).mono ?_
           (case side1 => repeat (first | exact (Kd.C_below HR5_1.out HB.out) | (with_reducible refine Kd.C_alloc ?_ _) | (with_reducible refine Kd.C_drewN ?_ _) | (with_reducible refine Kd.C_drew ?_)))
           (case side2 => exact HC5_1.out)
           rintro e w56 ⟨rfl, hb⟩
           refine ⟨_, rfl, ?_⟩
           have n0_ := Aside0.mk (Kd.R_below (by (with_reducible repeat (first | apply Kd.R_alloc | apply Kd.R_drewN | apply Kd.R_drew)); exact HO_367001.out) hb)
           have n1_ := Aside0.mk (blk_below (g := gb364) (o := .cells #[.int .i64 a5_0, .slice A5_1 l5_1.length c5_1] 129 (0, 0)) (by (with_reducible repeat (first | refine blk_drewN ?_ _ | refine blk_drew ?_ | refine blk_alloc ?_ _)); exact BK364.out) hb)
           have n2_ := Aside0.mk (blk_below (g := gb365) (o := .cells #[.int .i64 0, .slice none 0 0] 129 (0, 0)) (by (with_reducible repeat (first | refine blk_drewN ?_ _ | refine blk_drew ?_ | refine blk_alloc ?_ _)); exact BK365.out) hb)
           have n3_ := Aside0.mk (blk_below (g := gb366) (o := .cells #[.int .i64 ji7, u367001] 129 (0, 0)) (by (with_reducible repeat (first | refine blk_drewN ?_ _ | refine blk_drew ?_ | refine blk_alloc ?_ _)); exact BK366.out) hb)
           have n4_ := Aside0.mk (below_step (by repeat (first | (with_reducible first | exact HB.out | apply below_alloc | apply pw_below_drewN | apply below_drew1 | refine below_set ?_ GE364.out | refine below_set ?_ GE365.out | refine below_set ?_ GE366.out) | exact HB.out)) hb)
           clear HO_367001
           clear BK364
           clear BK365
           clear BK366
           clear HB
           have HO_367001 := n0_
           have BK364 := n1_
           have BK365 := n2_
           have BK366 := n3_
           have HB := n4_
           clear n0_ n1_ n2_ n3_ n4_
           (try clear hb)
           (try clear hb2)
           (try clear hk)
           (try clear hi)
           obtain ⟨Ao57, co57, eo57⟩ := Kd.R_slice HO_367001.out
           (first | subst eo57 | (injection eo57 with f1_ f2_ f3_; have f4_ := f1_.symm; have f5_ := f3_.symm; clear f1_ f2_ f3_; subst f4_; subst f5_))
           refine hK.out _ _ ⟨(blk_cell BK364.out 0).trans rfl, (blk_cell BK364.out 1).trans rfl, (blk_cell BK366.out 0).trans rfl, (blk_cell BK366.out 1).trans rfl⟩ (fun hHeld => ?_)
           clear hK K
           refine norm_ (a' := ?_) ?_ ?_
           rotate_left
           ·show Act.put _ (some 38) _ = _
            simp only [Act.put, sA,sB,sC, i64_w, i32_w]; rfl
           refine pure_ (i := 3) (N := some 39) (v := ?_) (a' := ?_) #[Y,Y,Y,Y,Y,Y,Y,N,N,N,N] rfl rfl (any_of HT_.out (by kernel_rfl)) (fun _ _ _ h => h) (Or.inl ⟨by rfl, ?_⟩) ?_ ?_; rotate_left
           ·intro w'; go_simp; with_reducible rfl
           rotate_left
           ·simp only [Act.put, sA,sB,sC, i64_w, i32_w]; rfl
           refine one_ (i := 7) (N := some 43) #[Y,Y,Y,Y,Y,Y,Y,Y,N,N,N] rfl rfl (one_of HT_.out (by kernel_rfl)) (by decide) (fun K hK => ?_)
           refine goes_ Tryz.func89 (by kernel_rfl) rfl #[.agg #[.int .i64 ji7, .slice Ao57 x367001_1.length co57], .int .i64 (wrap64 (x16_1 - 1))] (by rfl) rfl rfl (by (try simp only [List.map_toArray, List.map_cons, List.map_nil]); first | done | (simp only [hji7]; rfl) | rfl | (simp only [List.length_drop, List.length_take]; rfl)) ?_
           with_reducible refine (band_line_at.calls ji7 _ _ x367001_1 (wrap64 (x16_1 - 1)) t377 _ ?side1 ?side2 A51.out).mono ?_
           (case side1 => repeat (first | exact (Kd.R_reads' HO_367001.out).2.2 | (with_reducible refine Kd.C_alloc ?_ _) | (with_reducible refine Kd.C_drewN ?_ _) | (with_reducible refine Kd.C_drew ?_)))
           (case side2 => exact (Kd.R_reads' HO_367001.out).2.1)
           rintro e w58 ⟨rfl, hb⟩
           refine ⟨_, rfl, ?_⟩
           have n0_ := Aside0.mk (Kd.R_below (by (with_reducible repeat (first | apply Kd.R_alloc | apply Kd.R_drewN | apply Kd.R_drew)); exact HO_367001.out) hb)
           have n1_ := Aside0.mk (blk_below (g := gb364) (o := .cells #[.int .i64 a5_0, .slice A5_1 l5_1.length c5_1] 129 (0, 0)) (by (with_reducible repeat (first | refine blk_drewN ?_ _ | refine blk_drew ?_ | refine blk_alloc ?_ _)); exact BK364.out) hb)
           have n2_ := Aside0.mk (blk_below (g := gb365) (o := .cells #[.int .i64 0, .slice none 0 0] 129 (0, 0)) (by (with_reducible repeat (first | refine blk_drewN ?_ _ | refine blk_drew ?_ | refine blk_alloc ?_ _)); exact BK365.out) hb)
           have n3_ := Aside0.mk (blk_below (g := gb366) (o := .cells #[.int .i64 ji7, .slice Ao57 x367001_1.length co57] 129 (0, 0)) (by (with_reducible repeat (first | refine blk_drewN ?_ _ | refine blk_drew ?_ | refine blk_alloc ?_ _)); exact BK366.out) hb)
           have n4_ := Aside0.mk (below_step (by repeat (first | (with_reducible first | exact HB.out | apply below_alloc | apply pw_below_drewN | apply below_drew1 | refine below_set ?_ GE364.out | refine below_set ?_ GE365.out | refine below_set ?_ GE366.out) | exact HB.out)) hb)
           clear HO_367001
           clear BK364
           clear BK365
           clear BK366
           clear HB
           have HO_367001 := n0_
           have BK364 := n1_
           have BK365 := n2_
           have BK366 := n3_
           have HB := n4_
           clear n0_ n1_ n2_ n3_ n4_
           (try clear hb)
           (try clear hb2)
           (try clear hk)
           (try clear hi)
           refine hK.out _ _ ⟨(blk_cell BK364.out 0).trans rfl, (blk_cell BK364.out 1).trans rfl, (blk_cell BK366.out 0).trans rfl, (blk_cell BK366.out 1).trans rfl⟩ (fun hHeld => ?_)
           clear hK K
           refine norm_ (a' := ?_) ?_ ?_
           rotate_left
           ·show Act.put _ (some 43) _ = _
            simp only [Act.put, sA,sB,sC, i64_w, i32_w]; rfl
           refine pure_ (i := 8) (N := some 44) (v := ?_) (a' := ?_) #[Y,Y,Y,Y,Y,Y,Y,Y,Y,N,N] rfl rfl (any_of HT_.out (by kernel_rfl)) (fun _ _ _ h => h) (Or.inl ⟨by rfl, ?_⟩) ?_ ?_; rotate_left
           ·intro w'; go_simp; with_reducible rfl
           rotate_left
           ·simp only [Act.put, sA,sB,sC, i64_w, i32_w]; rfl
           refine pure_ (i := 9) (N := some 45) (v := ?_) (a' := ?_) #[Y,Y,Y,Y,Y,Y,Y,Y,Y,Y,N] rfl rfl (any_of HT_.out (by kernel_rfl)) (fun _ _ _ h => h) (Or.inl ⟨by rfl, ?_⟩) ?_ ?_; rotate_left
           ·intro w'; go_simp; with_reducible rfl
           rotate_left
           ·simp only [Act.put, sA,sB,sC, i64_w, i32_w]; rfl
           refine pure_ (i := 10) (N := some 17) (v := ?_) (a' := ?_) #[Y,Y,Y,Y,Y,Y,Y,Y,Y,Y,Y] rfl rfl (any_of HT_.out (by kernel_rfl)) (fun _ _ _ h => h) (Or.inl ⟨by rfl, ?_⟩) ?_ ?_; rotate_left
           ·intro w'; go_simp; with_reducible rfl
           rotate_left
           ·simp only [Act.put, sA,sB,sC, i64_w, i32_w]; rfl
           refine done_ (done_of HT_.out (by kernel_rfl)) ?_
           have hnb59 := NB366_364.out
           have hnc59 := NB364_366.out
           have hnb60 := NB366_365.out
           have hnc60 := NB365_366.out
           have hcz61_0 : w58.cell? ⟨gb366, 0, none⟩ = some (.int .i64 ji7) := (blk_cell BK366.out 0).trans rfl
           have hcz61_1 : w58.cell? ⟨gb366, 1, none⟩ = some (.slice Ao57 x367001_1.length co57) := (blk_cell BK366.out 1).trans rfl
           have hfz61_0 := blk_frozen BK366.out 0
           have hfz61_1 := blk_frozen BK366.out 1
           try go_wp2_with (first | ((with_reducible refine gate_builtin (b := .append) (xs := #[.tmp 78, .tmp 80]) rfl ?_); at_builtin; refine Kd.R_append (Kd.int .i64) (w0 := w) w.heap.size rfl (.tmp 78) (.tmp 80) 25 3 (.int .i64 0) 8 rfl Tryz.underlying25 info3 rfl (by decide) (by omega) (.slice Ao57 x367001_1.length co57) x367001_1 ji53 [.int .i64 ji53] (fun _ => True) (fun _ => False) rfl rfl ?aP (fun _ hk => hk.elim) ?aF ?aO ?aB ?aS ?aL ?_; (case aP => exact rfl); (case aB => exact (by repeat (first | (with_reducible first | exact HB.out | apply below_alloc | apply pw_below_drewN | apply below_drew1 | refine below_set ?_ GE364.out | refine below_set ?_ GE365.out | refine below_set ?_ GE366.out) | exact HB.out))); (case aF => exact (fun _ _ => trivial)); (case aO => exact (by (with_reducible repeat (first | apply Kd.R_alloc | apply Kd.R_drewN | apply Kd.R_drew)); exact HO_367001.out)); (case aS => exact (below_size (by repeat (first | (with_reducible first | exact HB.out | apply below_alloc | apply pw_below_drewN | apply below_drew1 | refine below_set ?_ GE364.out | refine below_set ?_ GE365.out | refine below_set ?_ GE366.out) | exact HB.out)))); (case aL => have := LMc54.out; omega); intro v379 w62 ho hb hg hat; rw [← Ny378.out] at ho; have n0_ := Aside0.mk (blk_grown (g := gb364) (o := .cells #[.int .i64 a5_0, .slice A5_1 l5_1.length c5_1] 129 (0, 0)) (by (with_reducible repeat (first | refine blk_drewN ?_ _ | refine blk_drew ?_ | refine blk_alloc ?_ _)); exact BK364.out) hg (Kd.R_ne HO_367001.out BK364.out (by decide))); have n1_ := Aside0.mk (blk_grown (g := gb365) (o := .cells #[.int .i64 0, .slice none 0 0] 129 (0, 0)) (by (with_reducible repeat (first | refine blk_drewN ?_ _ | refine blk_drew ?_ | refine blk_alloc ?_ _)); exact BK365.out) hg (Kd.R_ne HO_367001.out BK365.out (by decide))); have n2_ := Aside0.mk (blk_grown (g := gb366) (o := .cells #[.int .i64 ji7, .slice Ao57 x367001_1.length co57] 129 (0, 0)) (by (with_reducible repeat (first | refine blk_drewN ?_ _ | refine blk_drew ?_ | refine blk_alloc ?_ _)); exact BK366.out) hg (Kd.R_ne HO_367001.out BK366.out (by decide))); have n3_ := Aside0.mk (hb); have n4_ := Aside0.mk (ho); clear BK364; clear BK365; clear BK366; clear HB; clear HO_367001; have BK364 := n0_; have BK365 := n1_; have BK366 := n2_; have HB := n3_; have HO380 := n4_; clear n0_ n1_ n2_ n3_ n4_; (try clear ho); (try clear hb); (try clear hg); (try clear hat); obtain ⟨Ao63, co63, eo63⟩ := Kd.R_slice HO380.out; subst eo63; have hcz64_0 : w62.cell? ⟨gb366, 0, none⟩ = some (.int .i64 ji7) := (blk_cell BK366.out 0).trans rfl; have hcz64_1 : w62.cell? ⟨gb366, 1, none⟩ = some (.slice Ao57 x367001_1.length co57) := (blk_cell BK366.out 1).trans rfl; have hfz64_0 := blk_frozen BK366.out 0; have hfz64_1 := blk_frozen BK366.out 1))
           go_roundg kj25
           case measure => have := HK1.out; have := HJ15.out; have := HJ25.out; omega
           case rel => exact ⟨(wrap64 (x16_1 + 1)), (y378), (.slice Ao63 y378.length co63), (by first | rfl | (simp; done) | (simp [*]; done)), H', ⟨by have := HK1.out; have := HJ15.out; have := HJ25.out; omega⟩, ⟨by (with_reducible repeat (first | apply Kd.R_alloc | apply Kd.R_drewN | apply Kd.R_drew)); exact Kd.R_mono (Kd.R_far (p := ⟨gb366, 1, none⟩) (Kd.R_types HO380.out BK366.out (by decide)) (fun _ hk => hk.2) (.slice Ao63 y378.length co63)) (fun _ hk => trivial)⟩, ⟨by (with_reducible repeat (first | refine blk_drewN ?_ _ | refine blk_drew ?_ | refine blk_alloc ?_ _)); refine blk_far ?_ NB364_366.out _; (with_reducible repeat (first | refine blk_drewN ?_ _ | refine blk_drew ?_ | refine blk_alloc ?_ _)); exact BK364.out⟩, ⟨by (with_reducible repeat (first | refine blk_drewN ?_ _ | refine blk_drew ?_ | refine blk_alloc ?_ _)); refine blk_far ?_ NB365_366.out _; (with_reducible repeat (first | refine blk_drewN ?_ _ | refine blk_drew ?_ | refine blk_alloc ?_ _)); exact BK365.out⟩, ⟨by (with_reducible repeat (first | refine blk_drewN ?_ _ | refine blk_drew ?_ | refine blk_alloc ?_ _)); refine blk_put (cs := #[.int .i64 ji7, .slice Ao57 x367001_1.length co57]) ?_ 1 _ rfl; (with_reducible repeat (first | refine blk_drewN ?_ _ | refine blk_drew ?_ | refine blk_alloc ?_ _)); exact BK366.out⟩, ⟨by repeat (first | (with_reducible first | exact HB.out | apply below_alloc | apply pw_below_drewN | apply below_drew1 | refine below_set ?_ GE364.out | refine below_set ?_ GE365.out | refine below_set ?_ GE366.out) | exact HB.out)⟩⟩
          ·rw [if_neg c54] at H
           exact absurd H (by simp)
   ·rw [if_neg c15] at H
    have c15b0 : decide (x16_1 ≤ ji8) = false := decide_eq_false c15
    clear c15
    simp only [Option.some.injEq, Prod.mk.injEq] at H
    obtain ⟨rfl, rfl⟩ := H
    have hnb65 := NB366_364.out
    have hnc65 := NB364_366.out
    have hnb66 := NB366_365.out
    have hnc66 := NB365_366.out
    have hcz67_0 : wr.cell? ⟨gb366, 0, none⟩ = some (.int .i64 ji7) := (blk_cell BK366.out 0).trans rfl
    have hcz67_1 : wr.cell? ⟨gb366, 1, none⟩ = some (u367001) := (blk_cell BK366.out 1).trans rfl
    have hfz67_0 := blk_frozen BK366.out 0
    have hfz67_1 := blk_frozen BK366.out 1
    have hnb68 := NB365_364.out
    have hnc68 := NB364_365.out
    have hcz69_0 : wr.cell? ⟨gb365, 0, none⟩ = some (.int .i64 0) := (blk_cell BK365.out 0).trans rfl
    have hcz69_1 : wr.cell? ⟨gb365, 1, none⟩ = some (.slice none 0 0) := (blk_cell BK365.out 1).trans rfl
    have hfz69_0 := blk_frozen BK365.out 0
    have hfz69_1 := blk_frozen BK365.out 1
    obtain ⟨Ao70, co70, eo70⟩ := Kd.R_slice HO_367001.out
    subst eo70
    go_wp2
    refine bodyPost_ret (results_cell_row rfl _ _ gb365 129 #[.int .i64 ji7, .slice Ao70 x367001_1.length co70] (0, 0) _ rfl (by (with_reducible repeat (first | refine blk_drewN ?_ _ | refine blk_drew ?_ | refine blk_alloc ?_ _)); refine blk_put (cs := #[.int .i64 ji7, .slice none 0 0]) ?_ 1 _ rfl; (with_reducible repeat (first | refine blk_drewN ?_ _ | refine blk_drew ?_ | refine blk_alloc ?_ _)); refine blk_put (cs := #[.int .i64 0, .slice none 0 0]) ?_ 0 _ rfl; (with_reducible repeat (first | refine blk_drewN ?_ _ | refine blk_drew ?_ | refine blk_alloc ?_ _)); exact BK365.out) Tryz.underlying129 rfl (by kernel_rfl)) rfl ?_
    exact ⟨_, by first | rfl | (simp [errW_none, errW_some] <;> rfl) | (simp only [← hji7, ← hji8]; first | rfl | (simp [errW_none, errW_some] <;> rfl)) | (simp [*, errW_none, errW_some] <;> rfl), by (with_reducible repeat (first | apply Kd.R_alloc | apply Kd.R_drewN | apply Kd.R_drew)); exact Kd.R_mono (Kd.R_far (p := ⟨gb365, 1, none⟩) (Kd.R_far (p := ⟨gb365, 0, none⟩) (Kd.R_types HO_367001.out BK365.out (by decide)) (fun _ hk => hk.2) (.int .i64 ji7)) (fun _ hk => hk.2) (.slice Ao70 x367001_1.length co70)) (fun _ hk => trivial), by repeat (first | (with_reducible first | exact HB.out | apply below_alloc | apply pw_below_drewN | apply below_drew1 | refine below_set ?_ GE364.out | refine below_set ?_ GE365.out | refine below_set ?_ GE366.out) | exact HB.out)⟩
mutual
def band_Cells.j0 : Nat → Int → Int → Int → Bool → Option (Int)
 | 0, _, _, _, _ => none
 | k + 1, x0, x1, x2, x23 => if x23 = true then (some 0) else ((band_edges.f x0 x1 x2).bind fun bt383 => (if bt383.2.2 = true then (band_Cells.l0 k x0 x1 bt383.2.1 0 bt383.1) else (some 0)))
def band_Cells.l0 : Nat → Int → Int → Int → Int → Int → Option (Int)
 | 0, _, _, _, _, _ => none
 | k + 1, x0, x1, x8, x10, x11 => if x11 ≤ x8 then (band_Cells.l0 k x0 x1 x8 (wrap64 (x10 + (wrap64 ((wrap64 ((mn x1 (wrap64 (x0 - x11))) - (mx 0 (wrap64 (-x11))))) + 1)))) (wrap64 (x11 + 1))) else (some x10)
end
def band_Cells.f (k : Nat) (a0 : Int) (a1 : Int) (a2 : Int) : Option (Int) := (band_is.f a0).bind fun t381 => (if t381 = true then ((band_is.f a1).bind fun t382 => (if t382 = true then (band_Cells.j0 k a0 a1 a2 (decide (a2 < 0))) else (band_Cells.j0 k a0 a1 a2 true))) else (band_Cells.j0 k a0 a1 a2 true))
theorem band_Cells.mono_l : ∀ k, (∀ y0 y1 y2 y3, LeO (band_Cells.j0 k y0 y1 y2 y3) (band_Cells.j0 (k + 1) y0 y1 y2 y3)) ∧ (∀ y0 y1 y2 y3 y4, LeO (band_Cells.l0 k y0 y1 y2 y3 y4) (band_Cells.l0 (k + 1) y0 y1 y2 y3 y4))
 | 0 => ⟨fun _ _ _ _ r h => by simp [band_Cells.j0] at h, fun _ _ _ _ _ r h => by simp [band_Cells.l0] at h⟩
 | k + 1 => by
  obtain ⟨ih0, ih1⟩ := band_Cells.mono_l k
  refine ⟨?_, ?_⟩
  ·intro y0 y1 y2 y3
   unfold band_Cells.j0
   repeat' first
   | (with_reducible exact ih0 _ _ _ _)
   | (with_reducible exact ih1 _ _ _ _ _)
   | (with_reducible exact LeO.refl _)
   | (with_reducible exact LeO.none _)
   | (with_reducible refine LeO.ite ?_ ?_)
   | (with_reducible refine LeO.bind ?_ (fun _ => ?_))
   | exact ih0 _ _ _ _
   | exact ih1 _ _ _ _ _
   | exact LeO.none _
   | refine LeO.ite ?_ ?_
   | refine LeO.bind ?_ (fun _ => ?_)
  ·intro y0 y1 y2 y3 y4
   unfold band_Cells.l0
   repeat' first
   | (with_reducible exact ih0 _ _ _ _)
   | (with_reducible exact ih1 _ _ _ _ _)
   | (with_reducible exact LeO.refl _)
   | (with_reducible exact LeO.none _)
   | (with_reducible refine LeO.ite ?_ ?_)
   | (with_reducible refine LeO.bind ?_ (fun _ => ?_))
   | exact ih0 _ _ _ _
   | exact ih1 _ _ _ _ _
   | exact LeO.none _
   | refine LeO.ite ?_ ?_
   | refine LeO.bind ?_ (fun _ => ?_)
theorem band_Cells.mono : ∀ a0 a1 a2 k, LeO (band_Cells.f k a0 a1 a2) (band_Cells.f (k + 1) a0 a1 a2) := by
 intro a0 a1 a2 k
 obtain ⟨ih0, ih1⟩ := band_Cells.mono_l k
 unfold band_Cells.f
 repeat' first
   | (with_reducible exact ih0 _ _ _ _)
   | (with_reducible exact ih1 _ _ _ _ _)
   | (with_reducible exact LeO.refl _)
   | (with_reducible exact LeO.none _)
   | (with_reducible refine LeO.ite ?_ ?_)
   | (with_reducible refine LeO.bind ?_ (fun _ => ?_))
   | exact ih0 _ _ _ _
   | exact ih1 _ _ _ _ _
   | exact LeO.none _
   | refine LeO.ite ?_ ?_
   | refine LeO.bind ?_ (fun _ => ?_)
set_option maxHeartbeats 8000000 in
set_option maxRecDepth 100000 in
theorem band_Cells.calls (k : Nat) (a0 : Int) (a1 : Int) (a2 : Int) (r : Int) (w : World) (h : band_Cells.f k a0 a1 a2 = some r) :
  Calls Tryz.prog 90 #[.int .i64 a0, .int .i64 a1, .int .i64 a2] w fun e w' => e = .returned (.int .i64 r) ∧ Below w.heap.size w w' := by
 have HB := Aside0.mk (Below.refl w.heap.size w)
 have H : ((band_is.f a0).bind fun t381 => (if t381 = true then ((band_is.f a1).bind fun t382 => (if t382 = true then (band_Cells.j0 k a0 a1 a2 (decide (a2 < 0))) else (band_Cells.j0 k a0 a1 a2 true))) else (band_Cells.j0 k a0 a1 a2 true))) = some r := h
 clear h
 have HC4 := Aside0.mk H
 clear H
 go_enter Tryz.func90, Tryz.ntmps90
 go_upto_region 1 with (fail)
 go_cut [23] (fun v23 wc => ∃ (kq : Nat) (x23_3 : Bool), v23 = .bool x23_3 ∧ Aside0 (band_Cells.j0 kq a0 a1 a2 x23_3 = some r) ∧ Aside0 (kq ≤ k) ∧ Aside0 (Below w.heap.size w wc))
 case first =>
  have H := HC4.out
  clear HC4
  replace H := Option.bind_eq_some_iff.mp H
  obtain ⟨t381, A50, H⟩ := H
  replace H : (if t381 = true then ((band_is.f a1).bind fun t382 => (if t382 = true then (band_Cells.j0 k a0 a1 a2 (decide (a2 < 0))) else (band_Cells.j0 k a0 a1 a2 true))) else (band_Cells.j0 k a0 a1 a2 true)) = some r := H
  have A5 := Aside0.mk A50
  clear A50
  by_cases c6 : t381 = true
  ·subst c6
   have H1 : ((band_is.f a1).bind fun t382 => (if t382 = true then (band_Cells.j0 k a0 a1 a2 (decide (a2 < 0))) else (band_Cells.j0 k a0 a1 a2 true))) = some r := by rw [if_pos rfl] at H; exact H
   clear H
   have H := H1
   clear H1
   replace H := Option.bind_eq_some_iff.mp H
   obtain ⟨t382, A70, H⟩ := H
   replace H : (if t382 = true then (band_Cells.j0 k a0 a1 a2 (decide (a2 < 0))) else (band_Cells.j0 k a0 a1 a2 true)) = some r := H
   have A7 := Aside0.mk A70
   clear A70
   by_cases c8 : t382 = true
   ·subst c8
    have H1 : (band_Cells.j0 k a0 a1 a2 (decide (a2 < 0))) = some r := by rw [if_pos rfl] at H; exact H
    clear H
    have H := H1
    clear H1
    have H' := Aside0.mk H
    clear H
    go_wp2_with (first | ((first | (with_reducible refine gate_callee (f := 140) rfl ?_); refine goesL_ (some 13) rfl rfl Tryz.func140 (by kernel_rfl) rfl #[.int .i64 a0] rfl (by (try simp only [List.map_toArray, List.map_cons, List.map_nil]); first | done | rfl | (simp only [List.length_drop, List.length_take]; rfl)) ?_ | go_at_call 140); (with_reducible refine (band_is.calls a0 true _ A5.out).mono ?_); rintro e w' ⟨rfl, ⟨nd, rfl⟩⟩; (try refine ⟨_, rfl, ?_⟩)) | (go_at_call 140; (with_reducible refine (band_is.calls a1 true _ A7.out).mono ?_); rintro e w' ⟨rfl, ⟨nd, rfl⟩⟩))
    go_meet
    case rel => exact ⟨_, (decide (a2 < 0)), (by first | rfl | (simp; done) | (simp [*]; done)), H', ⟨by first | omega | exact Nat.le_refl _⟩, ⟨by repeat (first | (with_reducible first | exact HB.out | apply below_alloc | apply pw_below_drewN | apply below_drew1) | exact HB.out)⟩⟩
   ·replace c8 := Bool.eq_false_iff.mpr c8
    subst c8
    have H1 : (band_Cells.j0 k a0 a1 a2 true) = some r := by rw [if_neg (show ¬ (false = true) by decide)] at H; exact H
    clear H
    have H := H1
    clear H1
    have H' := Aside0.mk H
    clear H
    go_wp2_with (first | ((first | (with_reducible refine gate_callee (f := 140) rfl ?_); refine goesL_ (some 13) rfl rfl Tryz.func140 (by kernel_rfl) rfl #[.int .i64 a0] rfl (by (try simp only [List.map_toArray, List.map_cons, List.map_nil]); first | done | rfl | (simp only [List.length_drop, List.length_take]; rfl)) ?_ | go_at_call 140); (with_reducible refine (band_is.calls a0 true _ A5.out).mono ?_); rintro e w' ⟨rfl, ⟨nd, rfl⟩⟩; (try refine ⟨_, rfl, ?_⟩)) | (go_at_call 140; (with_reducible refine (band_is.calls a1 false _ A7.out).mono ?_); rintro e w' ⟨rfl, ⟨nd, rfl⟩⟩))
    go_meet
    case rel => exact ⟨_, (true), (by first | rfl | (simp; done) | (simp [*]; done)), H', ⟨by first | omega | exact Nat.le_refl _⟩, ⟨by repeat (first | (with_reducible first | exact HB.out | apply below_alloc | apply pw_below_drewN | apply below_drew1) | exact HB.out)⟩⟩
  ·replace c6 := Bool.eq_false_iff.mpr c6
   subst c6
   have H1 : (band_Cells.j0 k a0 a1 a2 true) = some r := by rw [if_neg (show ¬ (false = true) by decide)] at H; exact H
   clear H
   have H := H1
   clear H1
   have H' := Aside0.mk H
   clear H
   go_wp2_with (first | ((first | (with_reducible refine gate_callee (f := 140) rfl ?_); refine goesL_ (some 13) rfl rfl Tryz.func140 (by kernel_rfl) rfl #[.int .i64 a0] rfl (by (try simp only [List.map_toArray, List.map_cons, List.map_nil]); first | done | rfl | (simp only [List.length_drop, List.length_take]; rfl)) ?_ | go_at_call 140); (with_reducible refine (band_is.calls a0 false _ A5.out).mono ?_); rintro e w' ⟨rfl, ⟨nd, rfl⟩⟩; (try refine ⟨_, rfl, ?_⟩)))
   go_meet
   case rel => exact ⟨_, (true), (by first | rfl | (simp; done) | (simp [*]; done)), H', ⟨by first | omega | exact Nat.le_refl _⟩, ⟨by repeat (first | (with_reducible first | exact HB.out | apply below_alloc | apply pw_below_drewN | apply below_drew1) | exact HB.out)⟩⟩
 case rest =>
  clear HC4
  try clear c1
  try clear p2
  try clear c6
  try clear c8
  obtain ⟨kq, x23_3, rfl, HA, HJ3, HB⟩ := hcut
  cases kq with
  | zero => exact absurd HA.out (by simp [band_Cells.j0])
  | succ kj3 =>
   have H := HA.out
   clear HA
   simp only [band_Cells.j0] at H
   by_cases c9 : x23_3 = true
   ·subst c9
    have H1 : (some 0) = some r := by rw [if_pos rfl] at H; exact H
    clear H
    have H := H1
    clear H1
    obtain rfl := Option.some.inj H
    go_wp2
    go_ret
    exact ⟨by first | rfl | (simp [errW_none, errW_some] <;> rfl) | (simp [*, errW_none, errW_some] <;> rfl), by repeat (first | (with_reducible first | exact HB.out | apply below_alloc | apply pw_below_drewN | apply below_drew1) | exact HB.out)⟩
   ·replace c9 := Bool.eq_false_iff.mpr c9
    subst c9
    have H1 : ((band_edges.f a0 a1 a2).bind fun bt383 => (if bt383.2.2 = true then (band_Cells.l0 kj3 a0 a1 bt383.2.1 0 bt383.1) else (some 0))) = some r := by rw [if_neg (show ¬ (false = true) by decide)] at H; exact H
    clear H
    have H := H1
    clear H1
    replace H := Option.bind_eq_some_iff.mp H
    obtain ⟨⟨t383, t384, t385⟩, A100, H⟩ := H
    replace H : (if t385 = true then (band_Cells.l0 kj3 a0 a1 t384 0 t383) else (some 0)) = some r := H
    have A10 := Aside0.mk A100
    clear A100
    by_cases c11 : t385 = true
    ·subst c11
     have H1 : (band_Cells.l0 kj3 a0 a1 t384 0 t383) = some r := by rw [if_pos rfl] at H; exact H
     clear H
     have H := H1
     clear H1
     have H' := Aside0.mk H
     clear H
     go_wp2_with (first | ((first | (with_reducible refine gate_callee (f := 87) rfl ?_); refine goesL_ (some 28) rfl rfl Tryz.func87 (by kernel_rfl) rfl #[.int .i64 a0, .int .i64 a1, .int .i64 a2] rfl (by (try simp only [List.map_toArray, List.map_cons, List.map_nil]); first | done | rfl | (simp only [List.length_drop, List.length_take]; rfl)) ?_ | go_at_call 87); (with_reducible refine (band_edges.calls a0 a1 a2 t383 t384 true _ A10.out).mono ?_); rintro e w12 ⟨rfl, hb⟩; (try refine ⟨_, rfl, ?_⟩); have n0_ := Aside0.mk (below_step (by repeat (first | (with_reducible first | exact HB.out | apply below_alloc | apply pw_below_drewN | apply below_drew1) | exact HB.out)) hb); clear HB; have HB := n0_; clear n0_; (try clear hb); (try clear hb2); (try clear hk); (try clear hi)))
     go_loopg [10, 11] kj3 (fun kq v10 v11 w' => ∃ (x10_2 : Int) (x11_2 : Int), v10 = .int .i64 x10_2 ∧ v11 = .int .i64 x11_2 ∧ Aside0 (band_Cells.l0 kq a0 a1 t384 x10_2 x11_2 = some r) ∧ Aside0 (kq ≤ kj3) ∧ Aside0 (Below w.heap.size w w'))
     case atStart => exact ⟨(0), (t383), (by first | rfl | (simp; done) | (simp [*]; done)), (by first | rfl | (simp; done) | (simp [*]; done)), H', ⟨Nat.le_refl _⟩, ⟨by repeat (first | (with_reducible first | exact HB.out | apply below_alloc | apply pw_below_drewN | apply below_drew1) | exact HB.out)⟩⟩
     case round =>
      clear H'
      try clear c1
      try clear p2
      try clear c6
      try clear c8
      try clear c9
      try clear c11
      try clear p2
      obtain ⟨x10_2, x11_2, rfl, rfl, HA, HK2, HB⟩ := hrel
      cases gk with
      | zero => exact absurd HA.out (by simp [band_Cells.l0])
      | succ k2 =>
       have H := HA.out
       clear HA
       simp only [band_Cells.l0] at H
       by_cases c13 : x11_2 ≤ t384
       ·rw [if_pos c13] at H
        have c13b0 : decide (x11_2 ≤ t384) = true := decide_eq_true c13
        clear c13
        obtain ⟨ji14, hji14⟩ : ∃ j_ : Int, (mn a1 (wrap64 (a0 - x11_2))) = j_ := ⟨_, rfl⟩
        replace H : (band_Cells.l0 k2 a0 a1 t384 (wrap64 (x10_2 + (wrap64 ((wrap64 ((ji14) - (mx 0 (wrap64 (-x11_2))))) + 1)))) (wrap64 (x11_2 + 1))) = some r := by first | (rw [hji14] at H; exact H) | (simp only [hji14] at H ⊢; exact H)
        have hji14_ : (if (wrap64 (a0 - x11_2)) < a1 then (wrap64 (a0 - x11_2)) else a1) = ji14 := hji14
        obtain ⟨ji15, hji15⟩ : ∃ j_ : Int, (mx 0 (wrap64 (-x11_2))) = j_ := ⟨_, rfl⟩
        replace H : (band_Cells.l0 k2 a0 a1 t384 (wrap64 (x10_2 + (wrap64 ((wrap64 ((ji14) - (ji15))) + 1)))) (wrap64 (x11_2 + 1))) = some r := by first | (rw [hji15] at H; exact H) | (simp only [hji15] at H ⊢; exact H)
        have hji15_ : (if 0 < (wrap64 (-x11_2)) then (wrap64 (-x11_2)) else 0) = ji15 := hji15
        have H' := Aside0.mk H
        clear H
        go_wp2
        go_roundg k2
        case measure => have := HJ3.out; have := HK2.out; omega
        case rel => exact ⟨(wrap64 (x10_2 + (wrap64 ((wrap64 ((ji14) - (ji15))) + 1)))), (wrap64 (x11_2 + 1)), (by first | rfl | (simp; done) | (simp only [← hji14, ← hji15] <;> (first | rfl | simp)) | (simp [*]; done)), (by first | rfl | (simp; done) | (simp [*]; done)), H', ⟨by have := HJ3.out; have := HK2.out; omega⟩, ⟨by repeat (first | (with_reducible first | exact HB.out | apply below_alloc | apply pw_below_drewN | apply below_drew1) | exact HB.out)⟩⟩
       ·rw [if_neg c13] at H
        have c13b0 : decide (x11_2 ≤ t384) = false := decide_eq_false c13
        clear c13
        obtain rfl := Option.some.inj H
        go_wp2
        go_ret
        exact ⟨by first | rfl | (simp [errW_none, errW_some] <;> rfl) | (simp [*, errW_none, errW_some] <;> rfl), by repeat (first | (with_reducible first | exact HB.out | apply below_alloc | apply pw_below_drewN | apply below_drew1) | exact HB.out)⟩
    ·replace c11 := Bool.eq_false_iff.mpr c11
     subst c11
     have H1 : (some 0) = some r := by rw [if_neg (show ¬ (false = true) by decide)] at H; exact H
     clear H
     have H := H1
     clear H1
     obtain rfl := Option.some.inj H
     go_wp2_with (first | ((first | (with_reducible refine gate_callee (f := 87) rfl ?_); refine goesL_ (some 28) rfl rfl Tryz.func87 (by kernel_rfl) rfl #[.int .i64 a0, .int .i64 a1, .int .i64 a2] rfl (by (try simp only [List.map_toArray, List.map_cons, List.map_nil]); first | done | rfl | (simp only [List.length_drop, List.length_take]; rfl)) ?_ | go_at_call 87); (with_reducible refine (band_edges.calls a0 a1 a2 t383 t384 false _ A10.out).mono ?_); rintro e w16 ⟨rfl, hb⟩; (try refine ⟨_, rfl, ?_⟩); have n0_ := Aside0.mk (below_step (by repeat (first | (with_reducible first | exact HB.out | apply below_alloc | apply pw_below_drewN | apply below_drew1) | exact HB.out)) hb); clear HB; have HB := n0_; clear n0_; (try clear hb); (try clear hb2); (try clear hk); (try clear hi)))
     go_ret
     exact ⟨by first | rfl | (simp [errW_none, errW_some] <;> rfl) | (simp [*, errW_none, errW_some] <;> rfl), by repeat (first | (with_reducible first | exact HB.out | apply below_alloc | apply pw_below_drewN | apply below_drew1) | exact HB.out)⟩
def band_Within.l0 : Nat → List Int → List Int → Int → Int → Int → Int → Int → Int → List Int → Option (Int × Int × Int)
 | 0, _, _, _, _, _, _, _, _, _ => none
 | k + 1, x0, x1, x2, x9, x10, x31, x32, x661000, x661001 => if x32 < x31 then ((band_next.f k x0 x1 x32 x9 x10 x661000 x661001).bind fun bt661 => (band_Within.l0 k x0 x1 x2 x9 x10 x31 (wrap64 (x32 + 1)) bt661.1 bt661.2)) else ((band_line_at.f x661000 x661001 (x1.length : Int)).bind fun t665 => (if t665 ≤ x2 then ((band_Cells.f k (x0.length : Int) (x1.length : Int) x2).bind fun t666 => (some (t665, t666, 0))) else (some (0, 0, 3))))
def band_Within.f (k : Nat) (l0 : List Int) (l1 : List Int) (a2 : Int) : Option (Int × Int × Int) := if a2 < 0 then (some (0, 0, 1)) else ((band_edges.f (l0.length : Int) (l1.length : Int) a2).bind fun bt657 => (if bt657.2.2 = true then (band_Within.l0 k l0 l1 a2 bt657.1 bt657.2.1 (wrap64 ((l0.length : Int) + 1)) 0 0 ([] : List Int)) else (some (0, 0, 3))))
theorem band_Within.mono_l : ∀ k, (∀ y0 y1 y2 y3 y4 y5 y6 y7 y8, LeO (band_Within.l0 k y0 y1 y2 y3 y4 y5 y6 y7 y8) (band_Within.l0 (k + 1) y0 y1 y2 y3 y4 y5 y6 y7 y8))
 | 0 => fun _ _ _ _ _ _ _ _ _ r h => by simp [band_Within.l0] at h
 | k + 1 => by
  have ih0 := band_Within.mono_l k
  ·intro y0 y1 y2 y3 y4 y5 y6 y7 y8
   unfold band_Within.l0
   repeat' first
   | (with_reducible exact ih0 _ _ _ _ _ _ _ _ _)
   | (with_reducible exact band_Cells.mono _ _ _ _)
   | (with_reducible exact band_next.mono _ _ _ _ _ _ _ _)
   | (with_reducible exact LeO.refl _)
   | (with_reducible exact LeO.none _)
   | (with_reducible refine LeO.ite ?_ ?_)
   | (with_reducible refine LeO.bind ?_ (fun _ => ?_))
   | exact ih0 _ _ _ _ _ _ _ _ _
   | exact band_Cells.mono _ _ _ _
   | exact band_next.mono _ _ _ _ _ _ _ _
   | exact LeO.none _
   | refine LeO.ite ?_ ?_
   | refine LeO.bind ?_ (fun _ => ?_)
theorem band_Within.mono : ∀ a0 a1 a2 k, LeO (band_Within.f k a0 a1 a2) (band_Within.f (k + 1) a0 a1 a2) := by
 intro a0 a1 a2 k
 have ih0 := band_Within.mono_l k
 unfold band_Within.f
 repeat' first
   | (with_reducible exact ih0 _ _ _ _ _ _ _ _ _)
   | (with_reducible exact band_Cells.mono _ _ _ _)
   | (with_reducible exact band_next.mono _ _ _ _ _ _ _ _)
   | (with_reducible exact LeO.refl _)
   | (with_reducible exact LeO.none _)
   | (with_reducible refine LeO.ite ?_ ?_)
   | (with_reducible refine LeO.bind ?_ (fun _ => ?_))
   | exact ih0 _ _ _ _ _ _ _ _ _
   | exact band_Cells.mono _ _ _ _
   | exact band_next.mono _ _ _ _ _ _ _ _
   | exact LeO.none _
   | refine LeO.ite ?_ ?_
   | refine LeO.bind ?_ (fun _ => ?_)
set_option maxHeartbeats 8000000 in
set_option maxRecDepth 100000 in
theorem band_Within.calls (k : Nat) (A0 : Option Addr) (c0 : Nat) (l0 : List Int) (A1 : Option Addr) (c1 : Nat) (l1 : List Int) (a2 : Int) (r1 : Int) (r2 : Int) (r3 : Int) (w : World) (hr0 : Kd.C (Kd.int .i64) w A0 l0.length l0) (hc0 : l0.length ≤ c0) (hr1 : Kd.C (Kd.int .i64) w A1 l1.length l1) (hc1 : l1.length ≤ c1) (h : band_Within.f k l0 l1 a2 = some (r1, r2, r3)) :
  Calls Tryz.prog 46 #[.slice A0 l0.length c0, .slice A1 l1.length c1, .int .i64 a2] w fun e w' => e = .returned (.tuple #[.int .i64 r1, .int .i64 r2, .int .i64 r3]) ∧ Below w.heap.size w w' := by
 have hu129 := Tryz.underlying129
 have HR0 := Aside0.mk hr0
 have HC0 := Aside0.mk hc0
 clear hr0 hc0
 have HR1 := Aside0.mk hr1
 have HC1 := Aside0.mk hc1
 clear hr1 hc1
 have HB := Aside0.mk (Below.refl w.heap.size w)
 have H : (if a2 < 0 then (some (0, 0, 1)) else ((band_edges.f (l0.length : Int) (l1.length : Int) a2).bind fun bt657 => (if bt657.2.2 = true then (band_Within.l0 k l0 l1 a2 bt657.1 bt657.2.1 (wrap64 ((l0.length : Int) + 1)) 0 0 ([] : List Int)) else (some (0, 0, 3))))) = some (r1, r2, r3) := h
 clear h
 by_cases c4 : a2 < 0
 ·rw [if_pos c4] at H
  have c4b0 : decide (a2 < 0) = true := decide_eq_true c4
  clear c4
  simp only [Option.some.injEq, Prod.mk.injEq] at H
  obtain ⟨rfl, rfl, rfl⟩ := H
  go_enter Tryz.func46, Tryz.ntmps46
  go_wp2
  go_ret3
  exact ⟨by first | rfl | (simp [errW_none, errW_some] <;> rfl) | (simp [*, errW_none, errW_some] <;> rfl), by repeat (first | (with_reducible first | exact HB.out | apply below_alloc | apply pw_below_drewN | apply below_drew1) | exact HB.out)⟩
 ·rw [if_neg c4] at H
  have c4b0 : decide (a2 < 0) = false := decide_eq_false c4
  clear c4
  replace H := Option.bind_eq_some_iff.mp H
  obtain ⟨⟨t657, t658, t659⟩, A50, H⟩ := H
  replace H : (if t659 = true then (band_Within.l0 k l0 l1 a2 t657 t658 (wrap64 ((l0.length : Int) + 1)) 0 0 ([] : List Int)) else (some (0, 0, 3))) = some (r1, r2, r3) := H
  have A5 := Aside0.mk A50
  clear A50
  by_cases c6 : t659 = true
  ·subst c6
   have H1 : (band_Within.l0 k l0 l1 a2 t657 t658 (wrap64 ((l0.length : Int) + 1)) 0 0 ([] : List Int)) = some (r1, r2, r3) := by rw [if_pos rfl] at H; exact H
   clear H
   have H := H1
   clear H1
   have H' := Aside0.mk H
   clear H
   go_enter Tryz.func46, Tryz.ntmps46
   go_wp2_with (first | ((first | (with_reducible refine gate_callee (f := 87) rfl ?_); refine goesL_ (some 23) rfl rfl Tryz.func87 (by kernel_rfl) rfl #[.int .i64 (l0.length : Int), .int .i64 (l1.length : Int), .int .i64 a2] rfl (by (try simp only [List.map_toArray, List.map_cons, List.map_nil]); first | done | rfl | (simp only [List.length_drop, List.length_take]; rfl)) ?_ | go_at_call 87); (with_reducible refine (band_edges.calls (l0.length : Int) (l1.length : Int) a2 t657 t658 true _ A5.out).mono ?_); rintro e w7 ⟨rfl, hb⟩; (try refine ⟨_, rfl, ?_⟩); have n0_ := Aside0.mk (below_step (by repeat (first | (with_reducible first | exact HB.out | apply below_alloc | apply pw_below_drewN | apply below_drew1) | exact HB.out)) hb); clear HB; have HB := n0_; clear n0_; (try clear hb); (try clear hb2); (try clear hk); (try clear hi)) | ((with_reducible refine gate_dst (N := 12) rfl ?_); refine box_event ?hg (N := 12) ?hd (cs := #[.int .i64 0, .slice none 0 0]) (t := 129) ?hr ?_; (case hd => rfl); (case hg => rfl); (case hr => first | (go_simp; done) | (go_simp; rfl)); intro gb660 hg w8 hbox hb; have n0_ := Aside0.mk (below_step (by repeat (first | (with_reducible first | exact HB.out | apply below_alloc | apply pw_below_drewN | apply below_drew1) | exact HB.out)) hb); have n1_ := Aside0.mk (hbox); have n2_ := Aside0.mk ((by rw [hg]; exact (below_size (by repeat (first | (with_reducible first | exact HB.out | apply below_alloc | apply pw_below_drewN | apply below_drew1) | exact HB.out))) : w.heap.size ≤ gb660)); have n3_ := Aside0.mk ((by rw [hg]; exact (below_size (by repeat (first | (with_reducible first | exact HB.out | apply below_alloc | apply pw_below_drewN | apply below_drew1) | exact HB.out))) : w.heap.size ≤ gb660)); clear HB; have HB := n0_; have BK660 := n1_; have GW660 := n2_; have GE660 := n3_; clear n0_ n1_ n2_ n3_; (try clear hb); (try clear hbox); (try clear hg)))
   go_loopg [32] k (fun kq v32 w' => ∃ (x32_1 : Int) (x661000_1 : Int) (x661001_1 : List Int) (u661001 : Value), v32 = .int .i64 x32_1 ∧ Aside0 (band_Within.l0 kq l0 l1 a2 t657 t658 (wrap64 ((l0.length : Int) + 1)) x32_1 x661000_1 x661001_1 = some (r1, r2, r3)) ∧ Aside0 (kq ≤ k) ∧ Aside0 (Kd.R (Kd.int .i64) 3 w' w.heap.size (fun _ => True) u661001 x661001_1) ∧ Aside0 (w'.heap[gb660]? = some (.cells #[.int .i64 x661000_1, u661001] 129 (0, 0))) ∧ Aside0 (Below w.heap.size w w'))
   case atStart => exact ⟨(0), (0), (([] : List Int)), (.slice none 0 0), (by first | rfl | (simp; done) | (simp [*]; done)), H', ⟨Nat.le_refl _⟩, ⟨by first | exact Kd.R_nil _ _ _ _ _ | exact Kd.N_nil _ _ _ _ _ | exact Kd.V_nil _ _ _ _ _ | exact Kd.Q_nil _ _ _ _ _ | exact Kd.S_nil _ _ _ _ _⟩, ⟨by (with_reducible repeat (first | refine blk_drewN ?_ _ | refine blk_drew ?_ | refine blk_alloc ?_ _)); exact BK660.out⟩, ⟨by repeat (first | (with_reducible first | exact HB.out | apply below_alloc | apply pw_below_drewN | apply below_drew1 | refine below_set ?_ GE660.out) | exact HB.out)⟩⟩
   case round =>
    clear H'
    try clear c1
    try clear p2
    try clear c4
    try clear c4b0
    try clear c6
    try clear p6
    try clear c8
    obtain ⟨x32_1, x661000_1, x661001_1, u661001, rfl, HA, HK1, HO_661001, BK660, HB⟩ := hrel
    cases gk with
    | zero => exact absurd HA.out (by simp [band_Within.l0])
    | succ k1 =>
     have H := HA.out
     clear HA
     simp only [band_Within.l0] at H
     by_cases c9 : x32_1 < (wrap64 ((l0.length : Int) + 1))
     ·rw [if_pos c9] at H
      have c9b0 : decide (x32_1 < (wrap64 ((l0.length : Int) + 1))) = true := decide_eq_true c9
      clear c9
      replace H := Option.bind_eq_some_iff.mp H
      obtain ⟨⟨t661, t662⟩, A100, H⟩ := H
      replace H : (band_Within.l0 k1 l0 l1 a2 t657 t658 (wrap64 ((l0.length : Int) + 1)) (wrap64 (x32_1 + 1)) t661 t662) = some (r1, r2, r3) := H
      have A10 := Aside0.mk A100
      clear A100
      have H' := Aside0.mk H
      clear H
      have hcz11_0 : wr.cell? ⟨gb660, 0, none⟩ = some (.int .i64 x661000_1) := (blk_cell BK660.out 0).trans rfl
      have hcz11_1 : wr.cell? ⟨gb660, 1, none⟩ = some (u661001) := (blk_cell BK660.out 1).trans rfl
      have hfz11_0 := blk_frozen BK660.out 0
      have hfz11_1 := blk_frozen BK660.out 1
      obtain ⟨Ao12, co12, eo12⟩ := Kd.R_slice HO_661001.out
      subst eo12
      go_wp2_with (first | ((first | (with_reducible refine gate_callee (f := 88) rfl ?_); refine goesL_ (some 41) rfl rfl Tryz.func88 (by kernel_rfl) rfl #[.slice A0 l0.length c0, .slice A1 l1.length c1, .int .i64 x32_1, .int .i64 t657, .int .i64 t658, .agg #[.int .i64 x661000_1, .slice Ao12 x661001_1.length co12]] rfl (by (try simp only [List.map_toArray, List.map_cons, List.map_nil]); first | done | rfl | (simp only [List.length_drop, List.length_take]; rfl)) ?_ | go_at_call 88); (with_reducible refine (band_next.calls k1 _ _ l0 _ _ l1 x32_1 t657 t658 x661000_1 _ _ x661001_1 t661 t662 _ ?side1 ?side2 ?side3 ?side4 ?side5 ?side6 A10.out).mono ?_); (case side1 => repeat (first | exact (Kd.C_below HR0.out HB.out) | (with_reducible refine Kd.C_alloc ?_ _) | (with_reducible refine Kd.C_drewN ?_ _) | (with_reducible refine Kd.C_drew ?_))); (case side2 => exact HC0.out); (case side3 => repeat (first | exact (Kd.C_below HR1.out HB.out) | (with_reducible refine Kd.C_alloc ?_ _) | (with_reducible refine Kd.C_drewN ?_ _) | (with_reducible refine Kd.C_drew ?_))); (case side4 => exact HC1.out); (case side5 => repeat (first | exact (Kd.R_reads' HO_661001.out).2.2 | (with_reducible refine Kd.C_alloc ?_ _) | (with_reducible refine Kd.C_drewN ?_ _) | (with_reducible refine Kd.C_drew ?_))); (case side6 => exact (Kd.R_reads' HO_661001.out).2.1); rintro e w13 ⟨v663, rfl, ho0, hb⟩; (try refine ⟨_, rfl, ?_⟩); have n0_ := Aside0.mk (Kd.R_elder' (by (with_reducible repeat (first | apply Kd.R_alloc | apply Kd.R_drewN | apply Kd.R_drew)); exact HO_661001.out) (Kd.R_base ho0) hb); have n1_ := Aside0.mk (Kd.R_lower (Kd.R_new' ho0 (Kd.R_lt (by (with_reducible repeat (first | apply Kd.R_alloc | apply Kd.R_drewN | apply Kd.R_drew)); exact HO_661001.out))) (below_size (by repeat (first | (with_reducible first | exact HB.out | apply below_alloc | apply pw_below_drewN | apply below_drew1 | refine below_set ?_ GE660.out) | exact HB.out)))); have n2_ := Aside0.mk (blk_below (g := gb660) (o := .cells #[.int .i64 x661000_1, .slice Ao12 x661001_1.length co12] 129 (0, 0)) (by (with_reducible repeat (first | refine blk_drewN ?_ _ | refine blk_drew ?_ | refine blk_alloc ?_ _)); exact BK660.out) hb); have n3_ := Aside0.mk (below_step (by repeat (first | (with_reducible first | exact HB.out | apply below_alloc | apply pw_below_drewN | apply below_drew1 | refine below_set ?_ GE660.out) | exact HB.out)) hb); clear HO_661001; clear BK660; clear HB; have HO_661001 := n0_; have HO664 := n1_; have BK660 := n2_; have HB := n3_; clear n0_ n1_ n2_ n3_; (try clear hb); (try clear hb2); (try clear hk); (try clear hi); (try clear ho0); have hcz14_0 : w13.cell? ⟨gb660, 0, none⟩ = some (.int .i64 x661000_1) := (blk_cell BK660.out 0).trans rfl; have hcz14_1 : w13.cell? ⟨gb660, 1, none⟩ = some (.slice Ao12 x661001_1.length co12) := (blk_cell BK660.out 1).trans rfl; have hfz14_0 := blk_frozen BK660.out 0; have hfz14_1 := blk_frozen BK660.out 1; obtain ⟨Ao15, co15, eo15⟩ := Kd.R_slice HO664.out; subst eo15))
      go_roundg k1
      case measure => have := HK1.out; omega
      case rel => exact ⟨(wrap64 (x32_1 + 1)), (t661), (t662), (.slice Ao15 t662.length co15), (by first | rfl | (simp; done) | (simp [*]; done)), H', ⟨by have := HK1.out; omega⟩, ⟨by (with_reducible repeat (first | apply Kd.R_alloc | apply Kd.R_drewN | apply Kd.R_drew)); exact Kd.R_mono (Kd.R_far (p := ⟨gb660, 1, none⟩) (Kd.R_far (p := ⟨gb660, 0, none⟩) (Kd.R_types HO664.out BK660.out (by decide)) (fun _ hk => hk.2) (.int .i64 t661)) (fun _ hk => hk.2) (.slice Ao15 t662.length co15)) (fun _ hk => trivial)⟩, ⟨by (with_reducible repeat (first | refine blk_drewN ?_ _ | refine blk_drew ?_ | refine blk_alloc ?_ _)); refine blk_put (cs := #[.int .i64 t661, .slice Ao12 x661001_1.length co12]) ?_ 1 _ rfl; (with_reducible repeat (first | refine blk_drewN ?_ _ | refine blk_drew ?_ | refine blk_alloc ?_ _)); refine blk_put (cs := #[.int .i64 x661000_1, .slice Ao12 x661001_1.length co12]) ?_ 0 _ rfl; (with_reducible repeat (first | refine blk_drewN ?_ _ | refine blk_drew ?_ | refine blk_alloc ?_ _)); exact BK660.out⟩, ⟨by repeat (first | (with_reducible first | exact HB.out | apply below_alloc | apply pw_below_drewN | apply below_drew1 | refine below_set ?_ GE660.out) | exact HB.out)⟩⟩
     ·rw [if_neg c9] at H
      have c9b0 : decide (x32_1 < (wrap64 ((l0.length : Int) + 1))) = false := decide_eq_false c9
      clear c9
      replace H := Option.bind_eq_some_iff.mp H
      obtain ⟨t665, A160, H⟩ := H
      replace H : (if t665 ≤ a2 then ((band_Cells.f k1 (l0.length : Int) (l1.length : Int) a2).bind fun t666 => (some (t665, t666, 0))) else (some (0, 0, 3))) = some (r1, r2, r3) := H
      have A16 := Aside0.mk A160
      clear A160
      by_cases c17 : t665 ≤ a2
      ·rw [if_pos c17] at H
       have c17b0 : decide (t665 ≤ a2) = true := decide_eq_true c17
       clear c17
       replace H := Option.bind_eq_some_iff.mp H
       obtain ⟨t666, A180, H⟩ := H
       replace H : (some (t665, t666, 0)) = some (r1, r2, r3) := H
       have A18 := Aside0.mk A180
       clear A180
       simp only [Option.some.injEq, Prod.mk.injEq] at H
       obtain ⟨rfl, rfl, rfl⟩ := H
       have hcz19_0 : wr.cell? ⟨gb660, 0, none⟩ = some (.int .i64 x661000_1) := (blk_cell BK660.out 0).trans rfl
       have hcz19_1 : wr.cell? ⟨gb660, 1, none⟩ = some (u661001) := (blk_cell BK660.out 1).trans rfl
       have hfz19_0 := blk_frozen BK660.out 0
       have hfz19_1 := blk_frozen BK660.out 1
       obtain ⟨Ao20, co20, eo20⟩ := Kd.R_slice HO_661001.out
       subst eo20
       go_wp2_with (first | ((first | (with_reducible refine gate_callee (f := 89) rfl ?_); refine goesL_ (some 46) rfl rfl Tryz.func89 (by kernel_rfl) rfl #[.agg #[.int .i64 x661000_1, .slice Ao20 x661001_1.length co20], .int .i64 (l1.length : Int)] rfl (by (try simp only [List.map_toArray, List.map_cons, List.map_nil]); first | done | rfl | (simp only [List.length_drop, List.length_take]; rfl)) ?_ | go_at_call 89); (with_reducible refine (band_line_at.calls x661000_1 _ _ x661001_1 (l1.length : Int) t665 _ ?side1 ?side2 A16.out).mono ?_); (case side1 => repeat (first | exact (Kd.R_reads' HO_661001.out).2.2 | (with_reducible refine Kd.C_alloc ?_ _) | (with_reducible refine Kd.C_drewN ?_ _) | (with_reducible refine Kd.C_drew ?_))); (case side2 => exact (Kd.R_reads' HO_661001.out).2.1); rintro e w21 ⟨rfl, hb⟩; (try refine ⟨_, rfl, ?_⟩); have n0_ := Aside0.mk (Kd.R_below (by (with_reducible repeat (first | apply Kd.R_alloc | apply Kd.R_drewN | apply Kd.R_drew)); exact HO_661001.out) hb); have n1_ := Aside0.mk (blk_below (g := gb660) (o := .cells #[.int .i64 x661000_1, .slice Ao20 x661001_1.length co20] 129 (0, 0)) (by (with_reducible repeat (first | refine blk_drewN ?_ _ | refine blk_drew ?_ | refine blk_alloc ?_ _)); exact BK660.out) hb); have n2_ := Aside0.mk (below_step (by repeat (first | (with_reducible first | exact HB.out | apply below_alloc | apply pw_below_drewN | apply below_drew1 | refine below_set ?_ GE660.out) | exact HB.out)) hb); clear HO_661001; clear BK660; clear HB; have HO_661001 := n0_; have BK660 := n1_; have HB := n2_; clear n0_ n1_ n2_; (try clear hb); (try clear hb2); (try clear hk); (try clear hi)) | ((first | (with_reducible refine gate_callee (f := 90) rfl ?_); refine goesL_ (some 56) rfl rfl Tryz.func90 (by kernel_rfl) rfl #[.int .i64 (l0.length : Int), .int .i64 (l1.length : Int), .int .i64 a2] rfl (by (try simp only [List.map_toArray, List.map_cons, List.map_nil]); first | done | rfl | (simp only [List.length_drop, List.length_take]; rfl)) ?_ | go_at_call 90); (with_reducible refine (band_Cells.calls k1 (l0.length : Int) (l1.length : Int) a2 t666 _ A18.out).mono ?_); rintro e w22 ⟨rfl, hb⟩; (try refine ⟨_, rfl, ?_⟩); have n0_ := Aside0.mk (Kd.R_below (by (with_reducible repeat (first | apply Kd.R_alloc | apply Kd.R_drewN | apply Kd.R_drew)); exact HO_661001.out) hb); have n1_ := Aside0.mk (blk_below (g := gb660) (o := .cells #[.int .i64 x661000_1, .slice Ao20 x661001_1.length co20] 129 (0, 0)) (by (with_reducible repeat (first | refine blk_drewN ?_ _ | refine blk_drew ?_ | refine blk_alloc ?_ _)); exact BK660.out) hb); have n2_ := Aside0.mk (below_step (by repeat (first | (with_reducible first | exact HB.out | apply below_alloc | apply pw_below_drewN | apply below_drew1 | refine below_set ?_ GE660.out) | exact HB.out)) hb); clear HO_661001; clear BK660; clear HB; have HO_661001 := n0_; have BK660 := n1_; have HB := n2_; clear n0_ n1_ n2_; (try clear hb); (try clear hb2); (try clear hk); (try clear hi)))
       go_ret3
       exact ⟨by first | rfl | (simp [errW_none, errW_some] <;> rfl) | (simp [*, errW_none, errW_some] <;> rfl), by repeat (first | (with_reducible first | exact HB.out | apply below_alloc | apply pw_below_drewN | apply below_drew1 | refine below_set ?_ GE660.out) | exact HB.out)⟩
      ·rw [if_neg c17] at H
       have c17b0 : decide (t665 ≤ a2) = false := decide_eq_false c17
       clear c17
       simp only [Option.some.injEq, Prod.mk.injEq] at H
       obtain ⟨rfl, rfl, rfl⟩ := H
       have hcz23_0 : wr.cell? ⟨gb660, 0, none⟩ = some (.int .i64 x661000_1) := (blk_cell BK660.out 0).trans rfl
       have hcz23_1 : wr.cell? ⟨gb660, 1, none⟩ = some (u661001) := (blk_cell BK660.out 1).trans rfl
       have hfz23_0 := blk_frozen BK660.out 0
       have hfz23_1 := blk_frozen BK660.out 1
       obtain ⟨Ao24, co24, eo24⟩ := Kd.R_slice HO_661001.out
       subst eo24
       go_wp2_with (first | ((first | (with_reducible refine gate_callee (f := 89) rfl ?_); refine goesL_ (some 46) rfl rfl Tryz.func89 (by kernel_rfl) rfl #[.agg #[.int .i64 x661000_1, .slice Ao24 x661001_1.length co24], .int .i64 (l1.length : Int)] rfl (by (try simp only [List.map_toArray, List.map_cons, List.map_nil]); first | done | rfl | (simp only [List.length_drop, List.length_take]; rfl)) ?_ | go_at_call 89); (with_reducible refine (band_line_at.calls x661000_1 _ _ x661001_1 (l1.length : Int) t665 _ ?side1 ?side2 A16.out).mono ?_); (case side1 => repeat (first | exact (Kd.R_reads' HO_661001.out).2.2 | (with_reducible refine Kd.C_alloc ?_ _) | (with_reducible refine Kd.C_drewN ?_ _) | (with_reducible refine Kd.C_drew ?_))); (case side2 => exact (Kd.R_reads' HO_661001.out).2.1); rintro e w25 ⟨rfl, hb⟩; (try refine ⟨_, rfl, ?_⟩); have n0_ := Aside0.mk (Kd.R_below (by (with_reducible repeat (first | apply Kd.R_alloc | apply Kd.R_drewN | apply Kd.R_drew)); exact HO_661001.out) hb); have n1_ := Aside0.mk (blk_below (g := gb660) (o := .cells #[.int .i64 x661000_1, .slice Ao24 x661001_1.length co24] 129 (0, 0)) (by (with_reducible repeat (first | refine blk_drewN ?_ _ | refine blk_drew ?_ | refine blk_alloc ?_ _)); exact BK660.out) hb); have n2_ := Aside0.mk (below_step (by repeat (first | (with_reducible first | exact HB.out | apply below_alloc | apply pw_below_drewN | apply below_drew1 | refine below_set ?_ GE660.out) | exact HB.out)) hb); clear HO_661001; clear BK660; clear HB; have HO_661001 := n0_; have BK660 := n1_; have HB := n2_; clear n0_ n1_ n2_; (try clear hb); (try clear hb2); (try clear hk); (try clear hi)))
       go_ret3
       exact ⟨by first | rfl | (simp [errW_none, errW_some] <;> rfl) | (simp [*, errW_none, errW_some] <;> rfl), by repeat (first | (with_reducible first | exact HB.out | apply below_alloc | apply pw_below_drewN | apply below_drew1 | refine below_set ?_ GE660.out) | exact HB.out)⟩
  ·replace c6 := Bool.eq_false_iff.mpr c6
   subst c6
   have H1 : (some (0, 0, 3)) = some (r1, r2, r3) := by rw [if_neg (show ¬ (false = true) by decide)] at H; exact H
   clear H
   have H := H1
   clear H1
   simp only [Option.some.injEq, Prod.mk.injEq] at H
   obtain ⟨rfl, rfl, rfl⟩ := H
   go_enter Tryz.func46, Tryz.ntmps46
   go_wp2_with (first | ((first | (with_reducible refine gate_callee (f := 87) rfl ?_); refine goesL_ (some 23) rfl rfl Tryz.func87 (by kernel_rfl) rfl #[.int .i64 (l0.length : Int), .int .i64 (l1.length : Int), .int .i64 a2] rfl (by (try simp only [List.map_toArray, List.map_cons, List.map_nil]); first | done | rfl | (simp only [List.length_drop, List.length_take]; rfl)) ?_ | go_at_call 87); (with_reducible refine (band_edges.calls (l0.length : Int) (l1.length : Int) a2 t657 t658 false _ A5.out).mono ?_); rintro e w26 ⟨rfl, hb⟩; (try refine ⟨_, rfl, ?_⟩); have n0_ := Aside0.mk (below_step (by repeat (first | (with_reducible first | exact HB.out | apply below_alloc | apply pw_below_drewN | apply below_drew1) | exact HB.out)) hb); clear HB; have HB := n0_; clear n0_; (try clear hb); (try clear hb2); (try clear hk); (try clear hi)))
   go_ret3
   exact ⟨by first | rfl | (simp [errW_none, errW_some] <;> rfl) | (simp [*, errW_none, errW_some] <;> rfl), by repeat (first | (with_reducible first | exact HB.out | apply below_alloc | apply pw_below_drewN | apply below_drew1) | exact HB.out)⟩
end Go.Proofs.YtdiojfaenfggkaaGreat.PTopNear
namespace Go.Proofs.YtdiojfaenfggkaaGreat.PTopNear
open Go.RowKit Go.Proofs.YtdiojfaenfggkaaGreatW.PrintWords Go.Proofs.YtdiojfaenfggkaaGreatW.PrintLast Go.Proofs.YtdiojfaenfggkaaGreatW.PrintMore
attribute [local go_sem] max2_int min2_int max_two min_two max_three min_three max_four min_four
set_option linter.unusedVariables false
set_option linter.unusedSimpArgs false
def tok_isMode.f (a0 : Int) : Option (Bool) := if a0 = 0 then (some true) else (some (a0 == 1))
set_option maxHeartbeats 8000000 in
set_option maxRecDepth 100000 in
theorem tok_isMode.calls (a0 : Int) (r : Bool) (w : World) (h : tok_isMode.f a0 = some r) :
  Calls Tryz.prog 137 #[.int .i64 a0] w fun e w' => e = .returned (.bool r) ∧ Drawn0 w w' := by
 have H : (if a0 = 0 then (some true) else (some (a0 == 1))) = some r := h
 clear h
 by_cases c2 : a0 = 0
 ·rw [if_pos c2] at H
  have c2b0 : (a0 == 0) = true := beq_iff_eq.mpr c2
  have c2b1 : (a0 != 0) = false := bne_eq_false_iff_eq.mpr c2
  clear c2
  obtain rfl := Option.some.inj H
  go_enter Tryz.func137, Tryz.ntmps137
  go_wp2
  go_ret
  exact ⟨by first | rfl | (simp; done) | (simp [*]; done), by repeat (first | exact Drawn0.refl _ | apply Drawn0.step)⟩
 ·rw [if_neg c2] at H
  have c2b0 : (a0 == 0) = false := beq_eq_false_iff_ne.mpr c2
  have c2b1 : (a0 != 0) = true := bne_iff_ne.mpr c2
  obtain rfl := Option.some.inj H
  go_enter Tryz.func137, Tryz.ntmps137
  go_wp2
  go_ret
  exact ⟨by first | rfl | (simp; done) | (simp [*]; done), by repeat (first | exact Drawn0.refl _ | apply Drawn0.step)⟩
def bytes_IndexByte.f (l0 : List Int) (a1 : Int) : Option Int := some (Lib.indexByte (Lib.bytesOf l0) a1.toNat.toUInt8)
set_option maxRecDepth 100000 in
theorem bytes_IndexByte.calls (A0 : Option Addr) (c0 : Nat) (l0 : List Int) (a1 : Int) (r : Int) (w : World) (hr0 : Kd.C (Kd.int .u8) w A0 l0.length l0) (hc0 : l0.length ≤ c0) (h : bytes_IndexByte.f l0 a1 = some r) :
  Calls Tryz.prog 138 #[.slice A0 l0.length c0, .int .u8 a1] w fun e w' => e = .returned (.int .i64 r) ∧ Drawn0 w w' := by
 obtain rfl := Option.some.inj h
 cases A0 with
 | none =>
  have h0 := none_u8 hr0
  subst h0
  go_enter Tryz.func138, Tryz.ntmps138
  go_wp2
  rw [run_callFunc_extern Tryz.func177 (by kernel_rfl) (by kernel_rfl) (by kernel_rfl) (e := Extern.BytealgIndexByte.indexByte) (by kernel_rfl), Lib.run_indexByteNil]
  simp only [Result.andThen]
  rw [Oper.upon_value]
  go_wp2
  go_ret
  exact ⟨rfl, Drawn0.refl _⟩
 | some a =>
  have hc := cells_u8 hr0
  clear hr0
  go_enter Tryz.func138, Tryz.ntmps138
  go_wp2
  rw [run_callFunc_extern Tryz.func177 (by kernel_rfl) (by kernel_rfl) (by kernel_rfl) (e := Extern.BytealgIndexByte.indexByte) (by kernel_rfl), Lib.run_indexByteAt w a l0.length c0 l0 rfl hc a1]
  simp only [Result.andThen]
  rw [Oper.upon_value]
  go_wp2
  go_ret
  exact ⟨rfl, Drawn0.refl _⟩
def tok_Cut.l0 : Nat → Int → List Int → List (List Int) → Option ((List (List Int)) × Int)
 | 0, _, _, _ => none
 | k + 1, x0, x1, x6 => if (x1.length : Int) > 0 then (if x0 = 1 then ((bytes_IndexByte.f x1 10).bind fun t113 => (if (wrap64 (t113 + 1)) = 0 then (if 0 ≤ (x1.length : Int) then (if (x1.length : Int) ≤ (x1.length : Int) then ((bytes_Clone.f (x1.take ((x1.length : Int) : Int).toNat)).bind fun t119 => (if x6.length < 5864062014805 then (tok_Cut.l0 k x0 (x1.drop ((x1.length : Int) : Int).toNat) (x6 ++ [t119])) else (none))) else (none)) else (none)) else (if 0 ≤ (wrap64 (t113 + 1)) then (if (wrap64 (t113 + 1)) ≤ (x1.length : Int) then ((bytes_Clone.f (x1.take ((wrap64 (t113 + 1)) : Int).toNat)).bind fun t135 => (if x6.length < 5864062014805 then (tok_Cut.l0 k x0 (x1.drop ((wrap64 (t113 + 1)) : Int).toNat) (x6 ++ [t135])) else (none))) else (none)) else (none)))) else (if 1 ≤ (x1.length : Int) then ((bytes_Clone.f (x1.take 1)).bind fun t151 => (if x6.length < 5864062014805 then (tok_Cut.l0 k x0 (x1.drop 1) (x6 ++ [t151])) else (none))) else (none))) else (some (x6, 0))
def tok_Cut.f (k : Nat) (a0 : Int) (l1 : List Int) : Option ((List (List Int)) × Int) := (tok_isMode.f a0).bind fun t112 => (if t112 = true then (tok_Cut.l0 k a0 l1 ([] : List (List Int))) else (some (([] : List (List Int)), 1)))
theorem tok_Cut.mono_l : ∀ k, (∀ y0 y1 y2, LeO (tok_Cut.l0 k y0 y1 y2) (tok_Cut.l0 (k + 1) y0 y1 y2))
 | 0 => fun _ _ _ r h => by simp [tok_Cut.l0] at h
 | k + 1 => by
  have ih0 := tok_Cut.mono_l k
  ·intro y0 y1 y2
   unfold tok_Cut.l0
   repeat' first
   | (with_reducible exact ih0 _ _ _)
   | (with_reducible exact LeO.refl _)
   | (with_reducible exact LeO.none _)
   | (with_reducible refine LeO.ite ?_ ?_)
   | (with_reducible refine LeO.bind ?_ (fun _ => ?_))
   | exact ih0 _ _ _
   | exact LeO.none _
   | refine LeO.ite ?_ ?_
   | refine LeO.bind ?_ (fun _ => ?_)
theorem tok_Cut.mono : ∀ a0 a1 k, LeO (tok_Cut.f k a0 a1) (tok_Cut.f (k + 1) a0 a1) := by
 intro a0 a1 k
 have ih0 := tok_Cut.mono_l k
 unfold tok_Cut.f
 repeat' first
   | (with_reducible exact ih0 _ _ _)
   | (with_reducible exact LeO.refl _)
   | (with_reducible exact LeO.none _)
   | (with_reducible refine LeO.ite ?_ ?_)
   | (with_reducible refine LeO.bind ?_ (fun _ => ?_))
   | exact ih0 _ _ _
   | exact LeO.none _
   | refine LeO.ite ?_ ?_
   | refine LeO.bind ?_ (fun _ => ?_)
set_option maxHeartbeats 8000000 in
set_option maxRecDepth 100000 in
theorem tok_Cut.calls (k : Nat) (a0 : Int) (P1_ : Nat → Prop) (A1 : Option Addr) (c1 : Nat) (l1 : List Int) (r1 : List (List Int)) (r2 : Int) (w : World) (hs1 : Kd.V (Kd.int .u8) 5 w w.heap.size (fun k_ => P1_ k_) (.slice A1 l1.length c1) l1) (h : tok_Cut.f k a0 l1 = some (r1, r2)) :
  Calls Tryz.prog 84 #[.int .i64 a0, .slice A1 l1.length c1] w fun e w' => ∃ v0_ : Value, e = .returned (.tuple #[v0_, .int .i64 r2]) ∧ Kd.S (Kd.slice 5 (Kd.int .u8)) 22 w' w.heap.size (fun k_ => (w.heap.size ≤ k_)) v0_ r1 ∧ Below w.heap.size w w' := by
 have HO1 := Aside0.mk (show Kd.V (Kd.int .u8) 5 w w.heap.size (fun k_ => (P1_ k_ ∨ w.heap.size ≤ k_)) (.slice A1 l1.length c1) l1 from Kd.V_mono hs1 (fun k_ hk => .inl hk))
 have HB := Aside0.mk (Below.refl w.heap.size w)
 have H : ((tok_isMode.f a0).bind fun t112 => (if t112 = true then (tok_Cut.l0 k a0 l1 ([] : List (List Int))) else (some (([] : List (List Int)), 1)))) = some (r1, r2) := h
 clear h
 replace H := Option.bind_eq_some_iff.mp H
 obtain ⟨t112, A30, H⟩ := H
 replace H : (if t112 = true then (tok_Cut.l0 k a0 l1 ([] : List (List Int))) else (some (([] : List (List Int)), 1))) = some (r1, r2) := H
 have A3 := Aside0.mk A30
 clear A30
 by_cases c4 : t112 = true
 ·subst c4
  have H1 : (tok_Cut.l0 k a0 l1 ([] : List (List Int))) = some (r1, r2) := by rw [if_pos rfl] at H; exact H
  clear H
  have H := H1
  clear H1
  have H' := Aside0.mk H
  clear H
  go_enter Tryz.func84, Tryz.ntmps84
  go_wp2_with (first | ((first | (with_reducible refine gate_callee (f := 137) rfl ?_); refine goesL_ (some 9) rfl rfl Tryz.func137 (by kernel_rfl) rfl #[.int .i64 a0] rfl (by (try simp only [List.map_toArray, List.map_cons, List.map_nil]); first | done | rfl | (simp only [List.length_drop, List.length_take]; rfl)) ?_ | go_at_call 137); (with_reducible refine (tok_isMode.calls a0 true _ A3.out).mono ?_); rintro e w' ⟨rfl, ⟨nd, rfl⟩⟩; (try refine ⟨_, rfl, ?_⟩)))
  go_loopg [1, 6] k (fun kq v1 v6 w' => ∃ (x1_1 : List Int) (x6_1 : List (List Int)), Aside0 (tok_Cut.l0 kq a0 x1_1 x6_1 = some (r1, r2)) ∧ Aside0 (kq ≤ k) ∧ Aside0 (Kd.V (Kd.int .u8) 5 w' w.heap.size (fun k_ => (P1_ k_ ∨ w.heap.size ≤ k_) ∧ some k_ ≠ (v6 : Value).ownBlock) v1 x1_1) ∧ Aside0 (Kd.S (Kd.slice 5 (Kd.int .u8)) 22 w' w.heap.size (fun k_ => (w.heap.size ≤ k_)) v6 x6_1) ∧ Aside0 (Below w.heap.size w w'))
  case atStart => exact ⟨(l1), (([] : List (List Int))), H', ⟨Nat.le_refl _⟩, ⟨by (with_reducible repeat (first | apply Kd.V_alloc | apply Kd.V_drewN | apply Kd.V_drew)); exact Kd.V_mono HO1.out (fun _ hk => ⟨hk, (by simp [Value.ownBlock])⟩)⟩, ⟨by first | exact Kd.S_nil _ _ _ _ _ | exact Kd.N_nil _ _ _ _ _ | exact Kd.V_nil _ _ _ _ _ | exact Kd.Q_nil _ _ _ _ _ | exact Kd.R_nil _ _ _ _ _⟩, ⟨by repeat (first | (with_reducible first | exact HB.out | apply below_alloc | apply pw_below_drewN | apply below_drew1) | exact HB.out)⟩⟩
  case round =>
   clear H'
   try clear c1
   try clear p2
   try clear c4
   obtain ⟨x1_1, x6_1, HA, HK1, HO_1, HO_6, HB⟩ := hrel
   cases gk with
   | zero => exact absurd HA.out (by simp [tok_Cut.l0])
   | succ k1 =>
    have H := HA.out
    clear HA
    simp only [tok_Cut.l0] at H
    by_cases c5 : (x1_1.length : Int) > 0
    ·rw [if_pos c5] at H
     have c5b0 : decide (0 < (x1_1.length : Int)) = true := decide_eq_true c5
     have c5b1 : decide (0 < x1_1.length) = true := decide_eq_true (by omega)
     clear c5
     by_cases c6 : a0 = 1
     ·rw [if_pos c6] at H
      have c6b0 : (a0 == 1) = true := beq_iff_eq.mpr c6
      have c6b1 : (a0 != 1) = false := bne_eq_false_iff_eq.mpr c6
      clear c6
      replace H := Option.bind_eq_some_iff.mp H
      obtain ⟨t113, A70, H⟩ := H
      replace H : (if (wrap64 (t113 + 1)) = 0 then (if 0 ≤ (x1_1.length : Int) then (if (x1_1.length : Int) ≤ (x1_1.length : Int) then ((bytes_Clone.f (x1_1.take ((x1_1.length : Int) : Int).toNat)).bind fun t119 => (if x6_1.length < 5864062014805 then (tok_Cut.l0 k1 a0 (x1_1.drop ((x1_1.length : Int) : Int).toNat) (x6_1 ++ [t119])) else (none))) else (none)) else (none)) else (if 0 ≤ (wrap64 (t113 + 1)) then (if (wrap64 (t113 + 1)) ≤ (x1_1.length : Int) then ((bytes_Clone.f (x1_1.take ((wrap64 (t113 + 1)) : Int).toNat)).bind fun t135 => (if x6_1.length < 5864062014805 then (tok_Cut.l0 k1 a0 (x1_1.drop ((wrap64 (t113 + 1)) : Int).toNat) (x6_1 ++ [t135])) else (none))) else (none)) else (none))) = some (r1, r2) := H
      have A7 := Aside0.mk A70
      clear A70
      by_cases c8 : (wrap64 (t113 + 1)) = 0
      ·rw [if_pos c8] at H
       have c8b0 : ((wrap64 (t113 + 1)) == 0) = true := beq_iff_eq.mpr c8
       have c8b1 : ((wrap64 (t113 + 1)) != 0) = false := bne_eq_false_iff_eq.mpr c8
       clear c8
       by_cases c9 : 0 ≤ (x1_1.length : Int)
       ·rw [if_pos c9] at H
        have c9b0 := eq_true c9
        have c9b1 : decide (0 ≤ (x1_1.length : Int)) = true := decide_eq_true c9
        clear c9
        by_cases c10 : (x1_1.length : Int) ≤ (x1_1.length : Int)
        ·rw [if_pos c10] at H
         have c10b0 := eq_true c10
         have c10b1 : decide ((x1_1.length : Int) ≤ (x1_1.length : Int)) = true := decide_eq_true c10
         clear c10
         obtain ⟨y114, hy114⟩ : ∃ y_ : List Int, y_ = (x1_1.take ((x1_1.length : Int) : Int).toNat) := ⟨_, rfl⟩
         replace H : ((bytes_Clone.f y114).bind fun t119 => (if x6_1.length < 5864062014805 then (tok_Cut.l0 k1 a0 (x1_1.drop ((x1_1.length : Int) : Int).toNat) (x6_1 ++ [t119])) else (none))) = some (r1, r2) := by first | (rw [hy114]; with_reducible exact H) | (have H2_ := (Option.bind_some _ _).symm.trans H; rw [hy114]; with_reducible exact H2_) | (have H2_ := (Option.bind_some _ _).symm.trans H; with_reducible exact H2_) | with_reducible exact H | (rw [hy114]; exact H) | exact H
         have Ny114 := Aside0.mk hy114
         clear hy114
         replace H := Option.bind_eq_some_iff.mp H
         obtain ⟨t119, A110, H⟩ := H
         replace H : (if x6_1.length < 5864062014805 then (tok_Cut.l0 k1 a0 (x1_1.drop ((x1_1.length : Int) : Int).toNat) (x6_1 ++ [t119])) else (none)) = some (r1, r2) := H
         have A11 := Aside0.mk A110
         clear A110
         by_cases c12 : x6_1.length < 5864062014805
         ·rw [if_pos c12] at H
          have LMc12 := Aside0.mk c12
          clear c12
          obtain ⟨y122, hy122⟩ : ∃ y_ : List (List Int), y_ = (x6_1 ++ [t119]) := ⟨_, rfl⟩
          replace H : (tok_Cut.l0 k1 a0 (x1_1.drop ((x1_1.length : Int) : Int).toNat) y122) = some (r1, r2) := by first | (rw [hy122]; with_reducible exact H) | (have H2_ := (Option.bind_some _ _).symm.trans H; rw [hy122]; with_reducible exact H2_) | (have H2_ := (Option.bind_some _ _).symm.trans H; with_reducible exact H2_) | with_reducible exact H | (rw [hy122]; exact H) | exact H
          have Ny122 := Aside0.mk hy122
          clear hy122
          have c13b0 := eq_true (of_decide_eq_true (by first | (with_reducible assumption) | assumption) : 0 ≤ (x1_1.length : Int))
          have c14b0 := eq_true (of_decide_eq_true (by first | (with_reducible assumption) | assumption) : (x1_1.length : Int) ≤ (x1_1.length : Int))
          obtain ⟨y125, hy125⟩ : ∃ y_ : List Int, y_ = (x1_1.drop ((x1_1.length : Int) : Int).toNat) := ⟨_, rfl⟩
          replace H : (tok_Cut.l0 k1 a0 y125 y122) = some (r1, r2) := by first | (rw [hy125]; with_reducible exact H) | (have H2_ := (Option.bind_some _ _).symm.trans H; rw [hy125]; with_reducible exact H2_) | (have H2_ := (Option.bind_some _ _).symm.trans H; with_reducible exact H2_) | with_reducible exact H | (rw [hy125]; exact H) | exact H
          have Ny125 := Aside0.mk hy125
          clear hy125
          have H' := Aside0.mk H
          clear H
          obtain ⟨Ao15, co15, eo15⟩ := Kd.V_slice HO_1.out
          subst eo15
          go_wp2_with (first | ((first | (with_reducible refine gate_callee (f := 138) rfl ?_); refine goesL_ (some 17) rfl rfl Tryz.func138 (by kernel_rfl) rfl #[.slice Ao15 x1_1.length co15, .int .u8 10] rfl (by (try simp only [List.map_toArray, List.map_cons, List.map_nil]); first | done | rfl | (simp only [List.length_drop, List.length_take]; rfl)) ?_ | go_at_call 138); (with_reducible refine (bytes_IndexByte.calls _ _ x1_1 10 t113 _ ?side1 ?side2 A7.out).mono ?_); (case side1 => repeat (first | exact (Kd.V_reads' HO_1.out).2.2 | (with_reducible refine Kd.C_alloc ?_ _) | (with_reducible refine Kd.C_drewN ?_ _) | (with_reducible refine Kd.C_drew ?_))); (case side2 => exact (Kd.V_reads' HO_1.out).2.1); rintro e w' ⟨rfl, ⟨nd, rfl⟩⟩; (try refine ⟨_, rfl, ?_⟩); have q16 : ((x1_1.length : Int) : Int) ≤ ((x1_1.length : Int) : Int) := of_decide_eq_true (by first | (with_reducible assumption) | assumption); obtain ⟨i016, hi016, _, hsz16, _⟩ := info_parts info5; have hroom16 : x1_1.length ≤ co15 := (Kd.V_reads' HO_1.out).2.1; have hC16 : Kd.F (Kd.int .u8) _ _ Ao15 x1_1.length x1_1 := (Kd.V_at (base := w.heap.size) HO_1.out).2.2; have hcut16 := cut_to (P := Tryz.prog) 22 5 .i64 Tryz.underlying22 hi016 Ao15 x1_1.length co15 (x1_1.length : Int) (of_decide_eq_true (by first | (with_reducible assumption) | assumption)) q16 hroom16; have hr16 := Kd.F_take (m := ((x1_1.length : Int) : Int).toNat) hC16 (by omega); have hy16 : y114.length = ((x1_1.length : Int) : Int).toNat := (by rw [Ny114.out, List.length_take]; omega); rw [← Ny114.out] at hr16; rw [← hy16] at hcut16; have HO118 := Aside0.mk (show Kd.V (Kd.int .u8) 5 _ w.heap.size _ (.slice Ao15 y114.length co15) y114 from Kd.V_mk (by omega) hr16); have HC118 := Aside0.mk (show y114.length ≤ co15 from by omega); (try clear hr16); (try clear hC16); (try clear hroom16); (try clear hi016); (try clear hsz16); have KY16 := Aside0.mk hy16; clear hy16; replace q16 := eq_true q16) | ((first | (with_reducible refine gate_callee (f := 101) rfl ?_); refine goesL_ (some 27) rfl rfl Tryz.func101 (by kernel_rfl) rfl #[.slice Ao15 y114.length co15] rfl (by (try simp only [List.map_toArray, List.map_cons, List.map_nil]); first | done | rfl | (simp only [List.length_drop, List.length_take]; rfl)) ?_ | go_at_call 101); (with_reducible refine (bytes_Clone.calls _ _ y114 t119 _ ?side1 ?side2 A11.out).mono ?_); (case side1 => repeat (first | exact (Kd.V_reads' HO118.out).2.2 | (with_reducible refine Kd.C_alloc ?_ _) | (with_reducible refine Kd.C_drewN ?_ _) | (with_reducible refine Kd.C_drew ?_))); (case side2 => exact (Kd.V_reads' HO118.out).2.1); rintro e w17 ⟨v120, rfl, ho0, hb⟩; (try refine ⟨_, rfl, ?_⟩); have n0_ := Aside0.mk (Kd.V_elder' (by (with_reducible repeat (first | apply Kd.V_alloc | apply Kd.V_drewN | apply Kd.V_drew)); exact HO_1.out) (Kd.R_base ho0) hb); have n1_ := Aside0.mk (Kd.S_elder' (by (with_reducible repeat (first | apply Kd.S_alloc | apply Kd.S_drewN | apply Kd.S_drew)); exact HO_6.out) (Kd.R_base ho0) hb); have n2_ := Aside0.mk (Kd.V_elder' (by (with_reducible repeat (first | apply Kd.V_alloc | apply Kd.V_drewN | apply Kd.V_drew)); exact HO118.out) (Kd.R_base ho0) hb); have n3_ := Aside0.mk (Kd.R_lower (Kd.R_newM (M := fun k_ => (w.heap.size ≤ k_)) ho0 (below_size (by repeat (first | (with_reducible first | exact HB.out | apply below_alloc | apply pw_below_drewN | apply below_drew1) | exact HB.out))) (fun k_ h_ => h_)) (below_size (by repeat (first | (with_reducible first | exact HB.out | apply below_alloc | apply pw_below_drewN | apply below_drew1) | exact HB.out)))); have n4_ := Aside0.mk (below_step (by repeat (first | (with_reducible first | exact HB.out | apply below_alloc | apply pw_below_drewN | apply below_drew1) | exact HB.out)) hb); clear HO_1; clear HO_6; clear HO118; clear HB; have HO_1 := n0_; have HO_6 := n1_; have HO118 := n2_; have HO121 := n3_; have HB := n4_; clear n0_ n1_ n2_ n3_ n4_; (try clear hb); (try clear hb2); (try clear hk); (try clear hi); (try clear ho0); obtain ⟨Ao19, co19, eo19⟩ := Kd.R_slice HO121.out; subst eo19) | ((with_reducible refine gate_builtin (b := .append) (xs := #[.tmp 23, .tmp 28]) rfl ?_); at_builtin; refine Kd.S_append (Kd.slice 5 (Kd.int .u8)) (w0 := w) w.heap.size rfl (.tmp 23) (.tmp 28) 60 22 (.slice none 0 0) 24 rfl Tryz.underlying60 info22 rfl (by decide) (by omega) u6 x6_1 t119 [.slice Ao19 t119.length co19] (fun k_ => (w.heap.size ≤ k_)) (fun k_ => some k_ = (.slice Ao19 t119.length co19 : Value).ownBlock) rfl rfl ?aP (fun k_ hk_ => ((Kd.R_mono (ok' := fun k_ => ((fun k_ => (w.heap.size ≤ k_))) k_ ∧ some k_ ≠ (u6 : Value).ownBlock) (Kd.R_apart' (HO121.out) (Kd.S_typed HO_6.out) (by decide)) (fun k_ hk => ⟨hk.1.1, hk.2⟩))).1 k_ hk_.symm) ?aF ?aO ?aB ?aS ?aL ?_; (case aP => exact Kd.M_row (Kd.R_mono (Kd.R_tight rfl (Kd.R_mono (ok' := fun k_ => ((fun k_ => (w.heap.size ≤ k_))) k_ ∧ some k_ ≠ (u6 : Value).ownBlock) (Kd.R_apart' (HO121.out) (Kd.S_typed HO_6.out) (by decide)) (fun k_ hk => ⟨hk.1.1, hk.2⟩))) (fun _ h_ => h_))); (case aB => exact (by repeat (first | (with_reducible first | exact HB.out | apply below_alloc | apply pw_below_drewN | apply below_drew1) | exact HB.out))); (case aF => exact (fun k_ hk => (Nat.le_trans (below_size (by repeat (first | (with_reducible first | exact HB.out | apply below_alloc | apply pw_below_drewN | apply below_drew1) | exact HB.out))) hk))); (case aO => exact (by (with_reducible repeat (first | apply Kd.S_alloc | apply Kd.S_drewN | apply Kd.S_drew)); exact Kd.S_mono HO_6.out (fun k_ hk => ⟨hk.1, fun e_ => hk.2 e_⟩))); (case aS => exact (below_size (by repeat (first | (with_reducible first | exact HB.out | apply below_alloc | apply pw_below_drewN | apply below_drew1) | exact HB.out)))); (case aL => have := LMc12.out; omega); intro v123 w18 ho hb hg hat; rw [← Ny122.out] at ho; have n0_ := Aside0.mk (Kd.V_afterv (ok := (fun k_ => (P1_ k_ ∨ w.heap.size ≤ k_) ∧ some k_ ≠ (.slice Ao19 t119.length co19 : Value).ownBlock)) (by (with_reducible repeat (first | apply Kd.V_alloc | apply Kd.V_drewN | apply Kd.V_drew)); exact Kd.V_mono HO_1.out (fun _ hk => ⟨⟨hk.1.1, hk.2⟩, hk.1.2⟩)) hg hat); have n1_ := Aside0.mk (Kd.V_afterv (ok := (fun k_ => (P1_ k_ ∨ w.heap.size ≤ k_) ∧ some k_ ≠ (.slice Ao19 t119.length co19 : Value).ownBlock)) (by (with_reducible repeat (first | apply Kd.V_alloc | apply Kd.V_drewN | apply Kd.V_drew)); exact Kd.V_mono HO118.out (fun _ hk => ⟨⟨hk.1.1, hk.2⟩, hk.1.2⟩)) hg hat); have n2_ := Aside0.mk (hb); have n3_ := Aside0.mk (ho); clear HO_1; clear HO118; clear HB; clear HO_6; clear HO121; have HO_1 := n0_; have HO118 := n1_; have HB := n2_; have HO124 := n3_; clear n0_ n1_ n2_ n3_; (try clear ho); (try clear hb); (try clear hg); (try clear hat); have q20 : ((x1_1.length : Int) : Int) ≤ ((x1_1.length : Int) : Int) := of_decide_eq_true (by first | (with_reducible assumption) | assumption); obtain ⟨i020, hi020, _, hsz20, _⟩ := info_parts info5; have hroom20 : x1_1.length ≤ co15 := (Kd.V_reads' HO_1.out).2.1; have hC20 : Kd.F (Kd.int .u8) _ _ Ao15 x1_1.length x1_1 := (Kd.V_at (base := w.heap.size) HO_1.out).2.2; have q020 : (0 : Int) ≤ ((x1_1.length : Int) : Int) := of_decide_eq_true (by first | (with_reducible assumption) | assumption); have hcut20 := cut_from (P := Tryz.prog) 22 5 .i64 Tryz.underlying22 hi020 1 hsz20 Ao15 x1_1.length co15 (x1_1.length : Int) q020 q20; have hr20 := Kd.F_cut (m := ((x1_1.length : Int) : Int).toNat) (c := co15) hC20 (by omega) hroom20; obtain ⟨A20, hA20⟩ : ∃ z_, z_ = (if co15 = ((x1_1.length : Int) : Int).toNat then Ao15 else (Ao15 : Option Addr).map (·.add (((x1_1.length : Int) : Int).toNat * 1))) := ⟨_, rfl⟩; obtain ⟨c20, hc20⟩ : ∃ z_, z_ = co15 - ((x1_1.length : Int) : Int).toNat := ⟨_, rfl⟩; have hy20 : y125.length = x1_1.length - ((x1_1.length : Int) : Int).toNat := (by rw [Ny125.out, List.length_drop] <;> omega); rw [show (x1_1).drop ((x1_1.length : Int) : Int).toNat = y125 from Ny125.out.symm] at hr20; replace hr20 : Kd.F (Kd.int .u8) _ _ A20 y125.length y125 := (by rw [hA20]; exact hr20); rw [← hy20, ← hA20, ← hc20] at hcut20; have HO129 := Aside0.mk (show Kd.V (Kd.int .u8) 5 _ w.heap.size _ (.slice A20 y125.length c20) y125 from Kd.V_mk (by rw [hy20, hc20]; exact Nat.sub_le_sub_right hroom20 _) hr20); have HC129 := Aside0.mk (show y125.length ≤ c20 from by rw [hy20, hc20]; exact Nat.sub_le_sub_right hroom20 _); (try clear hr20); (try clear hC20); (try clear hroom20); (try clear hi020); (try clear hsz20); (try clear hc20); have KY20 := Aside0.mk hy20; have KA20 := Aside0.mk hA20; (try clear hy20); (try clear hA20); replace q20 := eq_true q20))
          go_roundg k1
          case measure => have := HK1.out; omega
          case rel => exact ⟨(y125), (y122), H', ⟨by have := HK1.out; omega⟩, ⟨by (with_reducible repeat (first | apply Kd.V_alloc | apply Kd.V_drewN | apply Kd.V_drew)); exact Kd.V_mono HO129.out (fun _ hk => ⟨hk.1.1, hk.2⟩)⟩, ⟨by (with_reducible repeat (first | apply Kd.S_alloc | apply Kd.S_drewN | apply Kd.S_drew)); exact HO124.out⟩, ⟨by repeat (first | (with_reducible first | exact HB.out | apply below_alloc | apply pw_below_drewN | apply below_drew1) | exact HB.out)⟩⟩
         ·rw [if_neg c12] at H
          exact absurd H (by simp)
        ·rw [if_neg c10] at H
         exact absurd H (by simp)
       ·rw [if_neg c9] at H
        exact absurd H (by simp)
      ·rw [if_neg c8] at H
       have c8b0 : ((wrap64 (t113 + 1)) == 0) = false := beq_eq_false_iff_ne.mpr c8
       have c8b1 : ((wrap64 (t113 + 1)) != 0) = true := bne_iff_ne.mpr c8
       obtain ⟨ji21, hji21⟩ : ∃ j_ : Int, (wrap64 (t113 + 1)) = j_ := ⟨_, rfl⟩
       replace H : (if 0 ≤ (ji21) then (if (ji21) ≤ (x1_1.length : Int) then ((bytes_Clone.f (x1_1.take ((ji21) : Int).toNat)).bind fun t135 => (if x6_1.length < 5864062014805 then (tok_Cut.l0 k1 a0 (x1_1.drop ((ji21) : Int).toNat) (x6_1 ++ [t135])) else (none))) else (none)) else (none)) = some (r1, r2) := by first | (rw [hji21] at H; exact H) | (simp only [hji21] at H ⊢; exact H)
       (try rw [hji21] at c8b0)
       (try rw [hji21] at c8b1)
       (try rw [hji21] at A7)
       have hji21w : (IntKind.i64.wrap (t113 + 1)) = ji21 := (i64_w _).trans hji21
       by_cases c22 : 0 ≤ (ji21)
       ·rw [if_pos c22] at H
        have c22b0 := eq_true c22
        have c22b1 : decide (0 ≤ (ji21)) = true := decide_eq_true c22
        clear c22
        by_cases c23 : (ji21) ≤ (x1_1.length : Int)
        ·rw [if_pos c23] at H
         have c23b0 := eq_true c23
         have c23b1 : decide ((ji21) ≤ (x1_1.length : Int)) = true := decide_eq_true c23
         clear c23
         obtain ⟨y130, hy130⟩ : ∃ y_ : List Int, y_ = (x1_1.take ((ji21) : Int).toNat) := ⟨_, rfl⟩
         replace H : ((bytes_Clone.f y130).bind fun t135 => (if x6_1.length < 5864062014805 then (tok_Cut.l0 k1 a0 (x1_1.drop ((ji21) : Int).toNat) (x6_1 ++ [t135])) else (none))) = some (r1, r2) := by first | (rw [hy130]; with_reducible exact H) | (have H2_ := (Option.bind_some _ _).symm.trans H; rw [hy130]; with_reducible exact H2_) | (have H2_ := (Option.bind_some _ _).symm.trans H; with_reducible exact H2_) | with_reducible exact H | (rw [hy130]; exact H) | exact H
         have Ny130 := Aside0.mk hy130
         clear hy130
         replace H := Option.bind_eq_some_iff.mp H
         obtain ⟨t135, A240, H⟩ := H
         replace H : (if x6_1.length < 5864062014805 then (tok_Cut.l0 k1 a0 (x1_1.drop ((ji21) : Int).toNat) (x6_1 ++ [t135])) else (none)) = some (r1, r2) := H
         have A24 := Aside0.mk A240
         clear A240
         by_cases c25 : x6_1.length < 5864062014805
         ·rw [if_pos c25] at H
          have LMc25 := Aside0.mk c25
          clear c25
          obtain ⟨y138, hy138⟩ : ∃ y_ : List (List Int), y_ = (x6_1 ++ [t135]) := ⟨_, rfl⟩
          replace H : (tok_Cut.l0 k1 a0 (x1_1.drop ((ji21) : Int).toNat) y138) = some (r1, r2) := by first | (rw [hy138]; with_reducible exact H) | (have H2_ := (Option.bind_some _ _).symm.trans H; rw [hy138]; with_reducible exact H2_) | (have H2_ := (Option.bind_some _ _).symm.trans H; with_reducible exact H2_) | with_reducible exact H | (rw [hy138]; exact H) | exact H
          have Ny138 := Aside0.mk hy138
          clear hy138
          have c26b0 := eq_true (of_decide_eq_true (by first | (with_reducible assumption) | assumption) : 0 ≤ (ji21))
          have c27b0 := eq_true (of_decide_eq_true (by first | (with_reducible assumption) | assumption) : (ji21) ≤ (x1_1.length : Int))
          obtain ⟨y141, hy141⟩ : ∃ y_ : List Int, y_ = (x1_1.drop ((ji21) : Int).toNat) := ⟨_, rfl⟩
          replace H : (tok_Cut.l0 k1 a0 y141 y138) = some (r1, r2) := by first | (rw [hy141]; with_reducible exact H) | (have H2_ := (Option.bind_some _ _).symm.trans H; rw [hy141]; with_reducible exact H2_) | (have H2_ := (Option.bind_some _ _).symm.trans H; with_reducible exact H2_) | with_reducible exact H | (rw [hy141]; exact H) | exact H
          have Ny141 := Aside0.mk hy141
          clear hy141
          have H' := Aside0.mk H
          clear H
          obtain ⟨Ao28, co28, eo28⟩ := Kd.V_slice HO_1.out
          subst eo28
          go_wp2_with (first | ((first | (with_reducible refine gate_callee (f := 138) rfl ?_); refine goesL_ (some 17) rfl rfl Tryz.func138 (by kernel_rfl) rfl #[.slice Ao28 x1_1.length co28, .int .u8 10] rfl (by (try simp only [List.map_toArray, List.map_cons, List.map_nil]); first | done | rfl | (simp only [List.length_drop, List.length_take]; rfl)) ?_ | go_at_call 138); (with_reducible refine (bytes_IndexByte.calls _ _ x1_1 10 t113 _ ?side1 ?side2 A7.out).mono ?_); (case side1 => repeat (first | exact (Kd.V_reads' HO_1.out).2.2 | (with_reducible refine Kd.C_alloc ?_ _) | (with_reducible refine Kd.C_drewN ?_ _) | (with_reducible refine Kd.C_drew ?_))); (case side2 => exact (Kd.V_reads' HO_1.out).2.1); rintro e w' ⟨rfl, ⟨nd, rfl⟩⟩; (try refine ⟨_, rfl, ?_⟩); have q29 : ((ji21) : Int) ≤ ((x1_1.length : Int) : Int) := of_decide_eq_true (by first | (with_reducible assumption) | assumption); obtain ⟨i029, hi029, _, hsz29, _⟩ := info_parts info5; have hroom29 : x1_1.length ≤ co28 := (Kd.V_reads' HO_1.out).2.1; have hC29 : Kd.F (Kd.int .u8) _ _ Ao28 x1_1.length x1_1 := (Kd.V_at (base := w.heap.size) HO_1.out).2.2; have hcut29 := cut_to (P := Tryz.prog) 22 5 .i64 Tryz.underlying22 hi029 Ao28 x1_1.length co28 (ji21) (of_decide_eq_true (by first | (with_reducible assumption) | assumption)) q29 hroom29; have hr29 := Kd.F_take (m := ((ji21) : Int).toNat) hC29 (by omega); have hy29 : y130.length = ((ji21) : Int).toNat := (by rw [Ny130.out, List.length_take]; omega); rw [← Ny130.out] at hr29; rw [← hy29] at hcut29; have HO134 := Aside0.mk (show Kd.V (Kd.int .u8) 5 _ w.heap.size _ (.slice Ao28 y130.length co28) y130 from Kd.V_mk (by omega) hr29); have HC134 := Aside0.mk (show y130.length ≤ co28 from by omega); (try clear hr29); (try clear hC29); (try clear hroom29); (try clear hi029); (try clear hsz29); have KY29 := Aside0.mk hy29; clear hy29; replace q29 := eq_true q29) | ((first | (with_reducible refine gate_callee (f := 101) rfl ?_); refine goesL_ (some 27) rfl rfl Tryz.func101 (by kernel_rfl) rfl #[.slice Ao28 y130.length co28] rfl (by (try simp only [List.map_toArray, List.map_cons, List.map_nil]); first | done | rfl | (simp only [List.length_drop, List.length_take]; rfl)) ?_ | go_at_call 101); (with_reducible refine (bytes_Clone.calls _ _ y130 t135 _ ?side1 ?side2 A24.out).mono ?_); (case side1 => repeat (first | exact (Kd.V_reads' HO134.out).2.2 | (with_reducible refine Kd.C_alloc ?_ _) | (with_reducible refine Kd.C_drewN ?_ _) | (with_reducible refine Kd.C_drew ?_))); (case side2 => exact (Kd.V_reads' HO134.out).2.1); rintro e w30 ⟨v136, rfl, ho0, hb⟩; (try refine ⟨_, rfl, ?_⟩); have n0_ := Aside0.mk (Kd.V_elder' (by (with_reducible repeat (first | apply Kd.V_alloc | apply Kd.V_drewN | apply Kd.V_drew)); exact HO_1.out) (Kd.R_base ho0) hb); have n1_ := Aside0.mk (Kd.S_elder' (by (with_reducible repeat (first | apply Kd.S_alloc | apply Kd.S_drewN | apply Kd.S_drew)); exact HO_6.out) (Kd.R_base ho0) hb); have n2_ := Aside0.mk (Kd.V_elder' (by (with_reducible repeat (first | apply Kd.V_alloc | apply Kd.V_drewN | apply Kd.V_drew)); exact HO134.out) (Kd.R_base ho0) hb); have n3_ := Aside0.mk (Kd.R_lower (Kd.R_newM (M := fun k_ => (w.heap.size ≤ k_)) ho0 (below_size (by repeat (first | (with_reducible first | exact HB.out | apply below_alloc | apply pw_below_drewN | apply below_drew1) | exact HB.out))) (fun k_ h_ => h_)) (below_size (by repeat (first | (with_reducible first | exact HB.out | apply below_alloc | apply pw_below_drewN | apply below_drew1) | exact HB.out)))); have n4_ := Aside0.mk (below_step (by repeat (first | (with_reducible first | exact HB.out | apply below_alloc | apply pw_below_drewN | apply below_drew1) | exact HB.out)) hb); clear HO_1; clear HO_6; clear HO134; clear HB; have HO_1 := n0_; have HO_6 := n1_; have HO134 := n2_; have HO137 := n3_; have HB := n4_; clear n0_ n1_ n2_ n3_ n4_; (try clear hb); (try clear hb2); (try clear hk); (try clear hi); (try clear ho0); obtain ⟨Ao32, co32, eo32⟩ := Kd.R_slice HO137.out; subst eo32) | ((with_reducible refine gate_builtin (b := .append) (xs := #[.tmp 23, .tmp 28]) rfl ?_); at_builtin; refine Kd.S_append (Kd.slice 5 (Kd.int .u8)) (w0 := w) w.heap.size rfl (.tmp 23) (.tmp 28) 60 22 (.slice none 0 0) 24 rfl Tryz.underlying60 info22 rfl (by decide) (by omega) u6 x6_1 t135 [.slice Ao32 t135.length co32] (fun k_ => (w.heap.size ≤ k_)) (fun k_ => some k_ = (.slice Ao32 t135.length co32 : Value).ownBlock) rfl rfl ?aP (fun k_ hk_ => ((Kd.R_mono (ok' := fun k_ => ((fun k_ => (w.heap.size ≤ k_))) k_ ∧ some k_ ≠ (u6 : Value).ownBlock) (Kd.R_apart' (HO137.out) (Kd.S_typed HO_6.out) (by decide)) (fun k_ hk => ⟨hk.1.1, hk.2⟩))).1 k_ hk_.symm) ?aF ?aO ?aB ?aS ?aL ?_; (case aP => exact Kd.M_row (Kd.R_mono (Kd.R_tight rfl (Kd.R_mono (ok' := fun k_ => ((fun k_ => (w.heap.size ≤ k_))) k_ ∧ some k_ ≠ (u6 : Value).ownBlock) (Kd.R_apart' (HO137.out) (Kd.S_typed HO_6.out) (by decide)) (fun k_ hk => ⟨hk.1.1, hk.2⟩))) (fun _ h_ => h_))); (case aB => exact (by repeat (first | (with_reducible first | exact HB.out | apply below_alloc | apply pw_below_drewN | apply below_drew1) | exact HB.out))); (case aF => exact (fun k_ hk => (Nat.le_trans (below_size (by repeat (first | (with_reducible first | exact HB.out | apply below_alloc | apply pw_below_drewN | apply below_drew1) | exact HB.out))) hk))); (case aO => exact (by (with_reducible repeat (first | apply Kd.S_alloc | apply Kd.S_drewN | apply Kd.S_drew)); exact Kd.S_mono HO_6.out (fun k_ hk => ⟨hk.1, fun e_ => hk.2 e_⟩))); (case aS => exact (below_size (by repeat (first | (with_reducible first | exact HB.out | apply below_alloc | apply pw_below_drewN | apply below_drew1) | exact HB.out)))); (case aL => have := LMc25.out; omega); intro v139 w31 ho hb hg hat; rw [← Ny138.out] at ho; have n0_ := Aside0.mk (Kd.V_afterv (ok := (fun k_ => (P1_ k_ ∨ w.heap.size ≤ k_) ∧ some k_ ≠ (.slice Ao32 t135.length co32 : Value).ownBlock)) (by (with_reducible repeat (first | apply Kd.V_alloc | apply Kd.V_drewN | apply Kd.V_drew)); exact Kd.V_mono HO_1.out (fun _ hk => ⟨⟨hk.1.1, hk.2⟩, hk.1.2⟩)) hg hat); have n1_ := Aside0.mk (Kd.V_afterv (ok := (fun k_ => (P1_ k_ ∨ w.heap.size ≤ k_) ∧ some k_ ≠ (.slice Ao32 t135.length co32 : Value).ownBlock)) (by (with_reducible repeat (first | apply Kd.V_alloc | apply Kd.V_drewN | apply Kd.V_drew)); exact Kd.V_mono HO134.out (fun _ hk => ⟨⟨hk.1.1, hk.2⟩, hk.1.2⟩)) hg hat); have n2_ := Aside0.mk (hb); have n3_ := Aside0.mk (ho); clear HO_1; clear HO134; clear HB; clear HO_6; clear HO137; have HO_1 := n0_; have HO134 := n1_; have HB := n2_; have HO140 := n3_; clear n0_ n1_ n2_ n3_; (try clear ho); (try clear hb); (try clear hg); (try clear hat); have q33 : ((ji21) : Int) ≤ ((x1_1.length : Int) : Int) := of_decide_eq_true (by first | (with_reducible assumption) | assumption); obtain ⟨i033, hi033, _, hsz33, _⟩ := info_parts info5; have hroom33 : x1_1.length ≤ co28 := (Kd.V_reads' HO_1.out).2.1; have hC33 : Kd.F (Kd.int .u8) _ _ Ao28 x1_1.length x1_1 := (Kd.V_at (base := w.heap.size) HO_1.out).2.2; have q033 : (0 : Int) ≤ ((ji21) : Int) := of_decide_eq_true (by first | (with_reducible assumption) | assumption); have hcut33 := cut_from (P := Tryz.prog) 22 5 .i64 Tryz.underlying22 hi033 1 hsz33 Ao28 x1_1.length co28 (ji21) q033 q33; have hr33 := Kd.F_cut (m := ((ji21) : Int).toNat) (c := co28) hC33 (by omega) hroom33; obtain ⟨A33, hA33⟩ : ∃ z_, z_ = (if co28 = ((ji21) : Int).toNat then Ao28 else (Ao28 : Option Addr).map (·.add (((ji21) : Int).toNat * 1))) := ⟨_, rfl⟩; obtain ⟨c33, hc33⟩ : ∃ z_, z_ = co28 - ((ji21) : Int).toNat := ⟨_, rfl⟩; have hy33 : y141.length = x1_1.length - ((ji21) : Int).toNat := (by rw [Ny141.out, List.length_drop] <;> omega); rw [show (x1_1).drop ((ji21) : Int).toNat = y141 from Ny141.out.symm] at hr33; replace hr33 : Kd.F (Kd.int .u8) _ _ A33 y141.length y141 := (by rw [hA33]; exact hr33); rw [← hy33, ← hA33, ← hc33] at hcut33; have HO145 := Aside0.mk (show Kd.V (Kd.int .u8) 5 _ w.heap.size _ (.slice A33 y141.length c33) y141 from Kd.V_mk (by rw [hy33, hc33]; exact Nat.sub_le_sub_right hroom33 _) hr33); have HC145 := Aside0.mk (show y141.length ≤ c33 from by rw [hy33, hc33]; exact Nat.sub_le_sub_right hroom33 _); (try clear hr33); (try clear hC33); (try clear hroom33); (try clear hi033); (try clear hsz33); (try clear hc33); have KY33 := Aside0.mk hy33; have KA33 := Aside0.mk hA33; (try clear hy33); (try clear hA33); replace q33 := eq_true q33))
          go_roundg k1
          case measure => have := HK1.out; omega
          case rel => exact ⟨(y141), (y138), H', ⟨by have := HK1.out; omega⟩, ⟨by (with_reducible repeat (first | apply Kd.V_alloc | apply Kd.V_drewN | apply Kd.V_drew)); exact Kd.V_mono HO145.out (fun _ hk => ⟨hk.1.1, hk.2⟩)⟩, ⟨by (with_reducible repeat (first | apply Kd.S_alloc | apply Kd.S_drewN | apply Kd.S_drew)); exact HO140.out⟩, ⟨by repeat (first | (with_reducible first | exact HB.out | apply below_alloc | apply pw_below_drewN | apply below_drew1) | exact HB.out)⟩⟩
         ·rw [if_neg c25] at H
          exact absurd H (by simp)
        ·rw [if_neg c23] at H
         exact absurd H (by simp)
       ·rw [if_neg c22] at H
        exact absurd H (by simp)
     ·rw [if_neg c6] at H
      have c6b0 : (a0 == 1) = false := beq_eq_false_iff_ne.mpr c6
      have c6b1 : (a0 != 1) = true := bne_iff_ne.mpr c6
      by_cases c34 : 1 ≤ (x1_1.length : Int)
      ·rw [if_pos c34] at H
       have c34b0 := eq_true c34
       have c34b1 : decide (1 ≤ (x1_1.length : Int)) = true := decide_eq_true c34
       clear c34
       obtain ⟨y146, hy146⟩ : ∃ y_ : List Int, y_ = (x1_1.take 1) := ⟨_, rfl⟩
       replace H : ((bytes_Clone.f y146).bind fun t151 => (if x6_1.length < 5864062014805 then (tok_Cut.l0 k1 a0 (x1_1.drop 1) (x6_1 ++ [t151])) else (none))) = some (r1, r2) := by first | (rw [hy146]; with_reducible exact H) | (have H2_ := (Option.bind_some _ _).symm.trans H; rw [hy146]; with_reducible exact H2_) | (have H2_ := (Option.bind_some _ _).symm.trans H; with_reducible exact H2_) | with_reducible exact H | (rw [hy146]; exact H) | exact H
       have Ny146 := Aside0.mk hy146
       clear hy146
       replace H := Option.bind_eq_some_iff.mp H
       obtain ⟨t151, A350, H⟩ := H
       replace H : (if x6_1.length < 5864062014805 then (tok_Cut.l0 k1 a0 (x1_1.drop 1) (x6_1 ++ [t151])) else (none)) = some (r1, r2) := H
       have A35 := Aside0.mk A350
       clear A350
       by_cases c36 : x6_1.length < 5864062014805
       ·rw [if_pos c36] at H
        have LMc36 := Aside0.mk c36
        clear c36
        obtain ⟨y154, hy154⟩ : ∃ y_ : List (List Int), y_ = (x6_1 ++ [t151]) := ⟨_, rfl⟩
        replace H : (tok_Cut.l0 k1 a0 (x1_1.drop 1) y154) = some (r1, r2) := by first | (rw [hy154]; with_reducible exact H) | (have H2_ := (Option.bind_some _ _).symm.trans H; rw [hy154]; with_reducible exact H2_) | (have H2_ := (Option.bind_some _ _).symm.trans H; with_reducible exact H2_) | with_reducible exact H | (rw [hy154]; exact H) | exact H
        have Ny154 := Aside0.mk hy154
        clear hy154
        have c37b0 := eq_true (of_decide_eq_true (by first | (with_reducible assumption) | assumption) : 1 ≤ (x1_1.length : Int))
        obtain ⟨y157, hy157⟩ : ∃ y_ : List Int, y_ = (x1_1.drop 1) := ⟨_, rfl⟩
        replace H : (tok_Cut.l0 k1 a0 y157 y154) = some (r1, r2) := by first | (rw [hy157]; with_reducible exact H) | (have H2_ := (Option.bind_some _ _).symm.trans H; rw [hy157]; with_reducible exact H2_) | (have H2_ := (Option.bind_some _ _).symm.trans H; with_reducible exact H2_) | with_reducible exact H | (rw [hy157]; exact H) | exact H
        have Ny157 := Aside0.mk hy157
        clear hy157
        have H' := Aside0.mk H
        clear H
        obtain ⟨Ao38, co38, eo38⟩ := Kd.V_slice HO_1.out
        subst eo38
        have q39 : (1 : Int) ≤ ((x1_1.length : Int) : Int) := of_decide_eq_true (by first | (with_reducible assumption) | assumption)
        obtain ⟨i039, hi039, _, hsz39, _⟩ := info_parts info5
        have hroom39 : x1_1.length ≤ co38 := (Kd.V_reads' HO_1.out).2.1
        have hC39 : Kd.F (Kd.int .u8) _ _ Ao38 x1_1.length x1_1 := (Kd.V_at (base := w.heap.size) HO_1.out).2.2
        have hcut39 := cut_to (P := Tryz.prog) 22 5 .i64 Tryz.underlying22 hi039 Ao38 x1_1.length co38 1 (by omega) q39 hroom39
        have hr39 := Kd.F_take (m := 1) hC39 (by omega)
        have hy39 : y146.length = (1 : Int).toNat := (by rw [Ny146.out, List.length_take]; omega)
        rw [← Ny146.out] at hr39
        rw [← hy39] at hcut39
        have HO150 := Aside0.mk (show Kd.V (Kd.int .u8) 5 _ w.heap.size _ (.slice Ao38 y146.length co38) y146 from Kd.V_mk (by omega) hr39)
        have HC150 := Aside0.mk (show y146.length ≤ co38 from by omega)
        clear hr39 hC39 hroom39 hi039 hsz39
        have KY39 := Aside0.mk hy39
        clear hy39
        replace q39 := eq_true q39
        go_wp2_with (first | ((first | (with_reducible refine gate_callee (f := 101) rfl ?_); refine goesL_ (some 27) rfl rfl Tryz.func101 (by kernel_rfl) rfl #[.slice Ao38 y146.length co38] rfl (by (try simp only [List.map_toArray, List.map_cons, List.map_nil]); first | done | rfl | (simp only [List.length_drop, List.length_take]; rfl)) ?_ | go_at_call 101); (with_reducible refine (bytes_Clone.calls _ _ y146 t151 _ ?side1 ?side2 A35.out).mono ?_); (case side1 => repeat (first | exact (Kd.V_reads' HO150.out).2.2 | (with_reducible refine Kd.C_alloc ?_ _) | (with_reducible refine Kd.C_drewN ?_ _) | (with_reducible refine Kd.C_drew ?_))); (case side2 => exact (Kd.V_reads' HO150.out).2.1); rintro e w40 ⟨v152, rfl, ho0, hb⟩; (try refine ⟨_, rfl, ?_⟩); have n0_ := Aside0.mk (Kd.V_elder' (by (with_reducible repeat (first | apply Kd.V_alloc | apply Kd.V_drewN | apply Kd.V_drew)); exact HO_1.out) (Kd.R_base ho0) hb); have n1_ := Aside0.mk (Kd.S_elder' (by (with_reducible repeat (first | apply Kd.S_alloc | apply Kd.S_drewN | apply Kd.S_drew)); exact HO_6.out) (Kd.R_base ho0) hb); have n2_ := Aside0.mk (Kd.V_elder' (by (with_reducible repeat (first | apply Kd.V_alloc | apply Kd.V_drewN | apply Kd.V_drew)); exact HO150.out) (Kd.R_base ho0) hb); have n3_ := Aside0.mk (Kd.R_lower (Kd.R_newM (M := fun k_ => (w.heap.size ≤ k_)) ho0 (below_size (by repeat (first | (with_reducible first | exact HB.out | apply below_alloc | apply pw_below_drewN | apply below_drew1) | exact HB.out))) (fun k_ h_ => h_)) (below_size (by repeat (first | (with_reducible first | exact HB.out | apply below_alloc | apply pw_below_drewN | apply below_drew1) | exact HB.out)))); have n4_ := Aside0.mk (below_step (by repeat (first | (with_reducible first | exact HB.out | apply below_alloc | apply pw_below_drewN | apply below_drew1) | exact HB.out)) hb); clear HO_1; clear HO_6; clear HO150; clear HB; have HO_1 := n0_; have HO_6 := n1_; have HO150 := n2_; have HO153 := n3_; have HB := n4_; clear n0_ n1_ n2_ n3_ n4_; (try clear hb); (try clear hb2); (try clear hk); (try clear hi); (try clear ho0); obtain ⟨Ao42, co42, eo42⟩ := Kd.R_slice HO153.out; subst eo42) | ((with_reducible refine gate_builtin (b := .append) (xs := #[.tmp 23, .tmp 28]) rfl ?_); at_builtin; refine Kd.S_append (Kd.slice 5 (Kd.int .u8)) (w0 := w) w.heap.size rfl (.tmp 23) (.tmp 28) 60 22 (.slice none 0 0) 24 rfl Tryz.underlying60 info22 rfl (by decide) (by omega) u6 x6_1 t151 [.slice Ao42 t151.length co42] (fun k_ => (w.heap.size ≤ k_)) (fun k_ => some k_ = (.slice Ao42 t151.length co42 : Value).ownBlock) rfl rfl ?aP (fun k_ hk_ => ((Kd.R_mono (ok' := fun k_ => ((fun k_ => (w.heap.size ≤ k_))) k_ ∧ some k_ ≠ (u6 : Value).ownBlock) (Kd.R_apart' (HO153.out) (Kd.S_typed HO_6.out) (by decide)) (fun k_ hk => ⟨hk.1.1, hk.2⟩))).1 k_ hk_.symm) ?aF ?aO ?aB ?aS ?aL ?_; (case aP => exact Kd.M_row (Kd.R_mono (Kd.R_tight rfl (Kd.R_mono (ok' := fun k_ => ((fun k_ => (w.heap.size ≤ k_))) k_ ∧ some k_ ≠ (u6 : Value).ownBlock) (Kd.R_apart' (HO153.out) (Kd.S_typed HO_6.out) (by decide)) (fun k_ hk => ⟨hk.1.1, hk.2⟩))) (fun _ h_ => h_))); (case aB => exact (by repeat (first | (with_reducible first | exact HB.out | apply below_alloc | apply pw_below_drewN | apply below_drew1) | exact HB.out))); (case aF => exact (fun k_ hk => (Nat.le_trans (below_size (by repeat (first | (with_reducible first | exact HB.out | apply below_alloc | apply pw_below_drewN | apply below_drew1) | exact HB.out))) hk))); (case aO => exact (by (with_reducible repeat (first | apply Kd.S_alloc | apply Kd.S_drewN | apply Kd.S_drew)); exact Kd.S_mono HO_6.out (fun k_ hk => ⟨hk.1, fun e_ => hk.2 e_⟩))); (case aS => exact (below_size (by repeat (first | (with_reducible first | exact HB.out | apply below_alloc | apply pw_below_drewN | apply below_drew1) | exact HB.out)))); (case aL => have := LMc36.out; omega); intro v155 w41 ho hb hg hat; rw [← Ny154.out] at ho; have n0_ := Aside0.mk (Kd.V_afterv (ok := (fun k_ => (P1_ k_ ∨ w.heap.size ≤ k_) ∧ some k_ ≠ (.slice Ao42 t151.length co42 : Value).ownBlock)) (by (with_reducible repeat (first | apply Kd.V_alloc | apply Kd.V_drewN | apply Kd.V_drew)); exact Kd.V_mono HO_1.out (fun _ hk => ⟨⟨hk.1.1, hk.2⟩, hk.1.2⟩)) hg hat); have n1_ := Aside0.mk (Kd.V_afterv (ok := (fun k_ => (P1_ k_ ∨ w.heap.size ≤ k_) ∧ some k_ ≠ (.slice Ao42 t151.length co42 : Value).ownBlock)) (by (with_reducible repeat (first | apply Kd.V_alloc | apply Kd.V_drewN | apply Kd.V_drew)); exact Kd.V_mono HO150.out (fun _ hk => ⟨⟨hk.1.1, hk.2⟩, hk.1.2⟩)) hg hat); have n2_ := Aside0.mk (hb); have n3_ := Aside0.mk (ho); clear HO_1; clear HO150; clear HB; clear HO_6; clear HO153; have HO_1 := n0_; have HO150 := n1_; have HB := n2_; have HO156 := n3_; clear n0_ n1_ n2_ n3_; (try clear ho); (try clear hb); (try clear hg); (try clear hat); have q43 : (1 : Int) ≤ ((x1_1.length : Int) : Int) := of_decide_eq_true (by first | (with_reducible assumption) | assumption); obtain ⟨i043, hi043, _, hsz43, _⟩ := info_parts info5; have hroom43 : x1_1.length ≤ co38 := (Kd.V_reads' HO_1.out).2.1; have hC43 : Kd.F (Kd.int .u8) _ _ Ao38 x1_1.length x1_1 := (Kd.V_at (base := w.heap.size) HO_1.out).2.2; have hcut43 := cut_from (P := Tryz.prog) 22 5 .i64 Tryz.underlying22 hi043 1 hsz43 Ao38 x1_1.length co38 1 (by omega) q43; have hr43 := Kd.F_cut (m := (1 : Int).toNat) (c := co38) hC43 (by omega) hroom43; obtain ⟨A43, hA43⟩ : ∃ z_, z_ = (if co38 = (1 : Int).toNat then Ao38 else (Ao38 : Option Addr).map (·.add ((1 : Int).toNat * 1))) := ⟨_, rfl⟩; obtain ⟨c43, hc43⟩ : ∃ z_, z_ = co38 - (1 : Int).toNat := ⟨_, rfl⟩; have hy43 : y157.length = x1_1.length - (1 : Int).toNat := (by rw [Ny157.out, List.length_drop] <;> omega); rw [show (x1_1).drop (1 : Int).toNat = y157 from Ny157.out.symm] at hr43; replace hr43 : Kd.F (Kd.int .u8) _ _ A43 y157.length y157 := (by rw [hA43]; exact hr43); rw [← hy43, ← hA43, ← hc43] at hcut43; have HO161 := Aside0.mk (show Kd.V (Kd.int .u8) 5 _ w.heap.size _ (.slice A43 y157.length c43) y157 from Kd.V_mk (by rw [hy43, hc43]; exact Nat.sub_le_sub_right hroom43 _) hr43); have HC161 := Aside0.mk (show y157.length ≤ c43 from by rw [hy43, hc43]; exact Nat.sub_le_sub_right hroom43 _); (try clear hr43); (try clear hC43); (try clear hroom43); (try clear hi043); (try clear hsz43); (try clear hc43); have KY43 := Aside0.mk hy43; have KA43 := Aside0.mk hA43; (try clear hy43); (try clear hA43); replace q43 := eq_true q43))
        go_roundg k1
        case measure => have := HK1.out; omega
        case rel => exact ⟨(y157), (y154), H', ⟨by have := HK1.out; omega⟩, ⟨by (with_reducible repeat (first | apply Kd.V_alloc | apply Kd.V_drewN | apply Kd.V_drew)); exact Kd.V_mono HO161.out (fun _ hk => ⟨hk.1.1, hk.2⟩)⟩, ⟨by (with_reducible repeat (first | apply Kd.S_alloc | apply Kd.S_drewN | apply Kd.S_drew)); exact HO156.out⟩, ⟨by repeat (first | (with_reducible first | exact HB.out | apply below_alloc | apply pw_below_drewN | apply below_drew1) | exact HB.out)⟩⟩
       ·rw [if_neg c36] at H
        exact absurd H (by simp)
      ·rw [if_neg c34] at H
       exact absurd H (by simp)
    ·rw [if_neg c5] at H
     have c5b0 : decide (0 < (x1_1.length : Int)) = false := decide_eq_false c5
     have c5b1 : decide (0 < x1_1.length) = false := decide_eq_false (by omega)
     clear c5
     simp only [Option.some.injEq, Prod.mk.injEq] at H
     obtain ⟨rfl, rfl⟩ := H
     obtain ⟨Ao44, co44, eo44⟩ := Kd.V_slice HO_1.out
     subst eo44
     go_wp2
     go_ret2
     exact ⟨_, by first | rfl | (simp [errW_none, errW_some] <;> rfl) | (simp [*, errW_none, errW_some] <;> rfl), by (with_reducible repeat (first | apply Kd.S_alloc | apply Kd.S_drewN | apply Kd.S_drew)); exact HO_6.out, by repeat (first | (with_reducible first | exact HB.out | apply below_alloc | apply pw_below_drewN | apply below_drew1) | exact HB.out)⟩
 ·replace c4 := Bool.eq_false_iff.mpr c4
  subst c4
  have H1 : (some (([] : List (List Int)), 1)) = some (r1, r2) := by rw [if_neg (show ¬ (false = true) by decide)] at H; exact H
  clear H
  have H := H1
  clear H1
  simp only [Option.some.injEq, Prod.mk.injEq] at H
  obtain ⟨rfl, rfl⟩ := H
  go_enter Tryz.func84, Tryz.ntmps84
  go_wp2_with (first | ((first | (with_reducible refine gate_callee (f := 137) rfl ?_); refine goesL_ (some 9) rfl rfl Tryz.func137 (by kernel_rfl) rfl #[.int .i64 a0] rfl (by (try simp only [List.map_toArray, List.map_cons, List.map_nil]); first | done | rfl | (simp only [List.length_drop, List.length_take]; rfl)) ?_ | go_at_call 137); (with_reducible refine (tok_isMode.calls a0 false _ A3.out).mono ?_); rintro e w' ⟨rfl, ⟨nd, rfl⟩⟩; (try refine ⟨_, rfl, ?_⟩)))
  go_ret2
  exact ⟨_, by first | rfl | (simp [errW_none, errW_some] <;> rfl) | (simp [*, errW_none, errW_some] <;> rfl), by first | exact Kd.S_nil _ _ _ _ _ | exact Kd.N_nil _ _ _ _ _ | exact Kd.V_nil _ _ _ _ _ | exact Kd.Q_nil _ _ _ _ _ | exact Kd.R_nil _ _ _ _ _, by repeat (first | (with_reducible first | exact HB.out | apply below_alloc | apply pw_below_drewN | apply below_drew1) | exact HB.out)⟩
def bytes_Count.f (l0 : List Int) (l1 : List Int) : Option Int := match l1 with
 | [c] => some (Lib.countByte (Lib.bytesOf l0) c.toNat.toUInt8 : Nat)
 | _ => none
set_option maxHeartbeats 2000000 in
set_option maxRecDepth 100000 in
theorem bytes_Count.calls (A0 : Option Addr) (c0 : Nat) (l0 : List Int) (A1 : Option Addr) (c1 : Nat) (l1 : List Int) (r : Int) (w : World) (hr0 : Kd.C (Kd.int .u8) w A0 l0.length l0) (hc0 : l0.length ≤ c0) (hr1 : Kd.C (Kd.int .u8) w A1 l1.length l1) (hc1 : l1.length ≤ c1) (h : bytes_Count.f l0 l1 = some r) :
  Calls Tryz.prog 105 #[.slice A0 l0.length c0, .slice A1 l1.length c1] w fun e w' => e = .returned (.int .i64 r) ∧ Drawn0 w w' := by
 obtain ⟨c, rfl⟩ : ∃ c, l1 = [c] := by
  unfold bytes_Count.f at h; split at h
  ·exact ⟨_, rfl⟩
  ·cases h
 obtain rfl := Option.some.inj h
 cases A1 with
 | none => have h0 := none_u8 hr1; cases h0
 | some b =>
  have hc2 : w.cell? b = some (.int .u8 c) := by
   have h2 := cells_u8 hr1 0 (by simp)
   have e : b.add 0 = b := by cases b; unfold Addr.add; split <;> simp_all
   rw [e] at h2; exact h2
  clear hr1
  cases A0 with
  | none =>
   have h0 := none_u8 hr0
   subst h0
   go_enter Tryz.func105, Tryz.ntmps105
   go_wp2
   rw [run_callFunc_extern Tryz.func146 (by kernel_rfl) (by kernel_rfl) (by kernel_rfl) (e := Extern.BytealgCount.count) (by kernel_rfl), Lib.run_countNil]
   simp only [Result.andThen]
   rw [Oper.upon_value]
   go_wp2
   go_ret
   exact ⟨rfl, Drawn0.refl _⟩
  | some a =>
   have hc := cells_u8 hr0
   clear hr0
   go_enter Tryz.func105, Tryz.ntmps105
   go_wp2
   rw [run_callFunc_extern Tryz.func146 (by kernel_rfl) (by kernel_rfl) (by kernel_rfl) (e := Extern.BytealgCount.count) (by kernel_rfl), Lib.run_countAt w a l0.length c0 l0 rfl hc c]
   simp only [Result.andThen]
   rw [Oper.upon_value]
   go_wp2
   go_ret
   exact ⟨rfl, Drawn0.refl _⟩
def tok_Count.f (a0 : Int) (l1 : List Int) : Option (Int × Int) := if a0 = 0 then (some ((l1.length : Int), 0)) else (if a0 = 1 then ((bytes_Count.f l1 (([10] : List Int))).bind fun t184 => (if (l1.length : Int) > 0 then (if 0 ≤ (wrap64 ((l1.length : Int) - 1)) then (if (wrap64 ((l1.length : Int) - 1)) < (l1.length : Int) then (if (rd l1 (wrap64 ((l1.length : Int) - 1))) = 10 then (some (t184, 0)) else (some (wrap64 (t184 + 1), 0))) else (none)) else (none)) else (some (t184, 0)))) else (some (0, 1)))
set_option maxHeartbeats 8000000 in
set_option maxRecDepth 100000 in
theorem tok_Count.calls (a0 : Int) (A1 : Option Addr) (c1 : Nat) (l1 : List Int) (r1 : Int) (r2 : Int) (w : World) (hr1 : Kd.C (Kd.int .u8) w A1 l1.length l1) (hc1 : l1.length ≤ c1) (h : tok_Count.f a0 l1 = some (r1, r2)) :
  Calls Tryz.prog 63 #[.int .i64 a0, .slice A1 l1.length c1] w fun e w' => e = .returned (.tuple #[.int .i64 r1, .int .i64 r2]) ∧ Below w.heap.size w w' := by
 have HR1 := Aside0.mk hr1
 have HC1 := Aside0.mk hc1
 clear hr1 hc1
 have HB := Aside0.mk (Below.refl w.heap.size w)
 have H : (if a0 = 0 then (some ((l1.length : Int), 0)) else (if a0 = 1 then ((bytes_Count.f l1 (([10] : List Int))).bind fun t184 => (if (l1.length : Int) > 0 then (if 0 ≤ (wrap64 ((l1.length : Int) - 1)) then (if (wrap64 ((l1.length : Int) - 1)) < (l1.length : Int) then (if (rd l1 (wrap64 ((l1.length : Int) - 1))) = 10 then (some (t184, 0)) else (some (wrap64 (t184 + 1), 0))) else (none)) else (none)) else (some (t184, 0)))) else (some (0, 1)))) = some (r1, r2) := h
 clear h
 by_cases c3 : a0 = 0
 ·rw [if_pos c3] at H
  have c3b0 : (a0 == 0) = true := beq_iff_eq.mpr c3
  have c3b1 : (a0 != 0) = false := bne_eq_false_iff_eq.mpr c3
  clear c3
  simp only [Option.some.injEq, Prod.mk.injEq] at H
  obtain ⟨rfl, rfl⟩ := H
  go_enter Tryz.func63, Tryz.ntmps63
  go_wp2
  go_ret2
  exact ⟨by first | rfl | (simp [errW_none, errW_some] <;> rfl) | (simp [*, errW_none, errW_some] <;> rfl), by repeat (first | (with_reducible first | exact HB.out | apply below_alloc | apply pw_below_drewN | apply below_drew1) | exact HB.out)⟩
 ·rw [if_neg c3] at H
  have c3b0 : (a0 == 0) = false := beq_eq_false_iff_ne.mpr c3
  have c3b1 : (a0 != 0) = true := bne_iff_ne.mpr c3
  by_cases c4 : a0 = 1
  ·rw [if_pos c4] at H
   have c4b0 : (a0 == 1) = true := beq_iff_eq.mpr c4
   have c4b1 : (a0 != 1) = false := bne_eq_false_iff_eq.mpr c4
   clear c4
   obtain ⟨y181, hy181⟩ : ∃ y_ : List Int, y_ = (([10] : List Int)) := ⟨_, rfl⟩
   replace H : ((bytes_Count.f l1 y181).bind fun t184 => (if (l1.length : Int) > 0 then (if 0 ≤ (wrap64 ((l1.length : Int) - 1)) then (if (wrap64 ((l1.length : Int) - 1)) < (l1.length : Int) then (if (rd l1 (wrap64 ((l1.length : Int) - 1))) = 10 then (some (t184, 0)) else (some (wrap64 (t184 + 1), 0))) else (none)) else (none)) else (some (t184, 0)))) = some (r1, r2) := by first | (rw [hy181]; with_reducible exact H) | (have H2_ := (Option.bind_some _ _).symm.trans H; rw [hy181]; with_reducible exact H2_) | (have H2_ := (Option.bind_some _ _).symm.trans H; with_reducible exact H2_) | with_reducible exact H | (rw [hy181]; exact H) | exact H
   have Ny181 := Aside0.mk hy181
   clear hy181
   replace H := Option.bind_eq_some_iff.mp H
   obtain ⟨t184, A50, H⟩ := H
   replace H : (if (l1.length : Int) > 0 then (if 0 ≤ (wrap64 ((l1.length : Int) - 1)) then (if (wrap64 ((l1.length : Int) - 1)) < (l1.length : Int) then (if (rd l1 (wrap64 ((l1.length : Int) - 1))) = 10 then (some (t184, 0)) else (some (wrap64 (t184 + 1), 0))) else (none)) else (none)) else (some (t184, 0))) = some (r1, r2) := H
   have A5 := Aside0.mk A50
   clear A50
   by_cases c6 : (l1.length : Int) > 0
   ·rw [if_pos c6] at H
    have c6b0 : decide (0 < (l1.length : Int)) = true := decide_eq_true c6
    have c6b1 : decide (0 < l1.length) = true := decide_eq_true (by omega)
    clear c6
    obtain ⟨ji7, hji7⟩ : ∃ j_ : Int, (wrap64 ((l1.length : Int) - 1)) = j_ := ⟨_, rfl⟩
    replace H : (if 0 ≤ (ji7) then (if (ji7) < (l1.length : Int) then (if (rd l1 (ji7)) = 10 then (some (t184, 0)) else (some (wrap64 (t184 + 1), 0))) else (none)) else (none)) = some (r1, r2) := by first | (rw [hji7] at H; exact H) | (simp only [hji7] at H ⊢; exact H)
    (try rw [hji7] at A5)
    have hji7w : (IntKind.i64.wrap ((l1.length : Int) - 1)) = ji7 := (i64_w _).trans hji7
    by_cases c8 : 0 ≤ (ji7)
    ·rw [if_pos c8] at H
     have c8b0 : decide (0 ≤ (ji7)) = true := decide_eq_true c8
     clear c8
     by_cases c9 : (ji7) < (l1.length : Int)
     ·rw [if_pos c9] at H
      have c9b0 : decide ((ji7) < (l1.length : Int)) = true := decide_eq_true c9
      clear c9
      by_cases c10 : (rd l1 (ji7)) = 10
      ·rw [if_pos c10] at H
       have c10b0 : ((rd l1 (ji7)) == 10) = true := beq_iff_eq.mpr c10
       have c10b1 : ((rd l1 (ji7)) != 10) = false := bne_eq_false_iff_eq.mpr c10
       clear c10
       simp only [Option.some.injEq, Prod.mk.injEq] at H
       obtain ⟨rfl, rfl⟩ := H
       go_enter Tryz.func63, Tryz.ntmps63
       go_wp2_with (first | ((with_reducible refine gate_dst (N := 15) rfl ?_); (try (refine gate_guard (by rfl) ?_; dsimp only)); refine Kd.R_lit (Kd.int .u8) _ 5 ?hg (N := 15) ?hd (xs := ([10] : List Int)) (inner := [.int .u8 10]) (ok := fun _ => True) (okp := fun _ => True) ?hr ?hp (fun _ hk => hk) trivial (Below.refl _ _) (Nat.le_refl _) (by simp) ?_; (case hd => rfl); (case hg => rfl); (case hr => first | (go_simp; done) | (go_simp; rfl)); (case hp => exact (Reps.one (show Kd.M (Kd.int .u8) _ _ _ 10 [.int .u8 10] from rfl) (Reps.none _ _))); intro v182 w11 ho12 hb hg_ hnew_; (try clear hg_); (try clear hnew_); (first | rw [← Ny181.out] at ho12 | (simp only [Int.reduceToNat] at ho12; rw [← Ny181.out] at ho12)); have n0_ := Aside0.mk (Kd.R_lower ho12 (below_size (by repeat (first | (with_reducible first | exact HB.out | apply below_alloc | apply pw_below_drewN | apply below_drew1) | exact HB.out)))); have n1_ := Aside0.mk (below_step (by repeat (first | (with_reducible first | exact HB.out | apply below_alloc | apply pw_below_drewN | apply below_drew1) | exact HB.out)) hb); clear HB; have HO183 := n0_; have HB := n1_; clear n0_ n1_; (try clear hb); (try clear ho12); obtain ⟨Ao13, co13, eo13⟩ := Kd.R_slice HO183.out; subst eo13) | ((first | (with_reducible refine gate_callee (f := 105) rfl ?_); refine goesL_ (some 16) rfl rfl Tryz.func105 (by kernel_rfl) rfl #[.slice A1 l1.length c1, .slice Ao13 y181.length co13] rfl (by (try simp only [List.map_toArray, List.map_cons, List.map_nil]); first | done | rfl | (simp only [List.length_drop, List.length_take]; rfl)) ?_ | go_at_call 105); (with_reducible refine (bytes_Count.calls _ _ l1 _ _ y181 t184 _ ?side1 ?side2 ?side3 ?side4 A5.out).mono ?_); (case side1 => repeat (first | exact (Kd.C_below HR1.out HB.out) | (with_reducible refine Kd.C_alloc ?_ _) | (with_reducible refine Kd.C_drewN ?_ _) | (with_reducible refine Kd.C_drew ?_))); (case side2 => exact HC1.out); (case side3 => repeat (first | exact (Kd.R_reads' HO183.out).2.2 | (with_reducible refine Kd.C_alloc ?_ _) | (with_reducible refine Kd.C_drewN ?_ _) | (with_reducible refine Kd.C_drew ?_))); (case side4 => exact (Kd.R_reads' HO183.out).2.1); rintro e w' ⟨rfl, ⟨nd, rfl⟩⟩; (try refine ⟨_, rfl, ?_⟩); have p185 : 0 ≤ ((ji7) : Int) := of_decide_eq_true (by first | (with_reducible assumption) | assumption); have q185 : (ji7) < (l1.length : Int) := of_decide_eq_true (by first | (with_reducible assumption) | assumption); obtain ⟨ad185, e185, hx185_0⟩ := Kd.at_int HR1.out (ji7) p185 q185; cases e185; replace hx185_0 := (HB.out.cell (World.block_lt_of_cell? w _ hx185_0)).trans hx185_0; replace p185 := eq_true p185; replace q185 := eq_true q185))
       go_ret2
       exact ⟨by first | rfl | (simp [errW_none, errW_some] <;> rfl) | (simp only [← hji7]; first | rfl | (simp [errW_none, errW_some] <;> rfl)) | (simp [*, errW_none, errW_some] <;> rfl), by repeat (first | (with_reducible first | exact HB.out | apply below_alloc | apply pw_below_drewN | apply below_drew1) | exact HB.out)⟩
      ·rw [if_neg c10] at H
       have c10b0 : ((rd l1 (ji7)) == 10) = false := beq_eq_false_iff_ne.mpr c10
       have c10b1 : ((rd l1 (ji7)) != 10) = true := bne_iff_ne.mpr c10
       simp only [Option.some.injEq, Prod.mk.injEq] at H
       obtain ⟨rfl, rfl⟩ := H
       go_enter Tryz.func63, Tryz.ntmps63
       go_wp2_with (first | ((with_reducible refine gate_dst (N := 15) rfl ?_); (try (refine gate_guard (by rfl) ?_; dsimp only)); refine Kd.R_lit (Kd.int .u8) _ 5 ?hg (N := 15) ?hd (xs := ([10] : List Int)) (inner := [.int .u8 10]) (ok := fun _ => True) (okp := fun _ => True) ?hr ?hp (fun _ hk => hk) trivial (Below.refl _ _) (Nat.le_refl _) (by simp) ?_; (case hd => rfl); (case hg => rfl); (case hr => first | (go_simp; done) | (go_simp; rfl)); (case hp => exact (Reps.one (show Kd.M (Kd.int .u8) _ _ _ 10 [.int .u8 10] from rfl) (Reps.none _ _))); intro v182 w14 ho15 hb hg_ hnew_; (try clear hg_); (try clear hnew_); (first | rw [← Ny181.out] at ho15 | (simp only [Int.reduceToNat] at ho15; rw [← Ny181.out] at ho15)); have n0_ := Aside0.mk (Kd.R_lower ho15 (below_size (by repeat (first | (with_reducible first | exact HB.out | apply below_alloc | apply pw_below_drewN | apply below_drew1) | exact HB.out)))); have n1_ := Aside0.mk (below_step (by repeat (first | (with_reducible first | exact HB.out | apply below_alloc | apply pw_below_drewN | apply below_drew1) | exact HB.out)) hb); clear HB; have HO183 := n0_; have HB := n1_; clear n0_ n1_; (try clear hb); (try clear ho15); obtain ⟨Ao16, co16, eo16⟩ := Kd.R_slice HO183.out; subst eo16) | ((first | (with_reducible refine gate_callee (f := 105) rfl ?_); refine goesL_ (some 16) rfl rfl Tryz.func105 (by kernel_rfl) rfl #[.slice A1 l1.length c1, .slice Ao16 y181.length co16] rfl (by (try simp only [List.map_toArray, List.map_cons, List.map_nil]); first | done | rfl | (simp only [List.length_drop, List.length_take]; rfl)) ?_ | go_at_call 105); (with_reducible refine (bytes_Count.calls _ _ l1 _ _ y181 t184 _ ?side1 ?side2 ?side3 ?side4 A5.out).mono ?_); (case side1 => repeat (first | exact (Kd.C_below HR1.out HB.out) | (with_reducible refine Kd.C_alloc ?_ _) | (with_reducible refine Kd.C_drewN ?_ _) | (with_reducible refine Kd.C_drew ?_))); (case side2 => exact HC1.out); (case side3 => repeat (first | exact (Kd.R_reads' HO183.out).2.2 | (with_reducible refine Kd.C_alloc ?_ _) | (with_reducible refine Kd.C_drewN ?_ _) | (with_reducible refine Kd.C_drew ?_))); (case side4 => exact (Kd.R_reads' HO183.out).2.1); rintro e w' ⟨rfl, ⟨nd, rfl⟩⟩; (try refine ⟨_, rfl, ?_⟩); have p185 : 0 ≤ ((ji7) : Int) := of_decide_eq_true (by first | (with_reducible assumption) | assumption); have q185 : (ji7) < (l1.length : Int) := of_decide_eq_true (by first | (with_reducible assumption) | assumption); obtain ⟨ad185, e185, hx185_0⟩ := Kd.at_int HR1.out (ji7) p185 q185; cases e185; replace hx185_0 := (HB.out.cell (World.block_lt_of_cell? w _ hx185_0)).trans hx185_0; replace p185 := eq_true p185; replace q185 := eq_true q185))
       go_ret2
       exact ⟨by first | rfl | (simp [errW_none, errW_some] <;> rfl) | (simp only [← hji7]; first | rfl | (simp [errW_none, errW_some] <;> rfl)) | (simp [*, errW_none, errW_some] <;> rfl), by repeat (first | (with_reducible first | exact HB.out | apply below_alloc | apply pw_below_drewN | apply below_drew1) | exact HB.out)⟩
     ·rw [if_neg c9] at H
      exact absurd H (by simp)
    ·rw [if_neg c8] at H
     exact absurd H (by simp)
   ·rw [if_neg c6] at H
    have c6b0 : decide (0 < (l1.length : Int)) = false := decide_eq_false c6
    have c6b1 : decide (0 < l1.length) = false := decide_eq_false (by omega)
    clear c6
    simp only [Option.some.injEq, Prod.mk.injEq] at H
    obtain ⟨rfl, rfl⟩ := H
    go_enter Tryz.func63, Tryz.ntmps63
    go_wp2_with (first | ((with_reducible refine gate_dst (N := 15) rfl ?_); (try (refine gate_guard (by rfl) ?_; dsimp only)); refine Kd.R_lit (Kd.int .u8) _ 5 ?hg (N := 15) ?hd (xs := ([10] : List Int)) (inner := [.int .u8 10]) (ok := fun _ => True) (okp := fun _ => True) ?hr ?hp (fun _ hk => hk) trivial (Below.refl _ _) (Nat.le_refl _) (by simp) ?_; (case hd => rfl); (case hg => rfl); (case hr => first | (go_simp; done) | (go_simp; rfl)); (case hp => exact (Reps.one (show Kd.M (Kd.int .u8) _ _ _ 10 [.int .u8 10] from rfl) (Reps.none _ _))); intro v182 w17 ho18 hb hg_ hnew_; (try clear hg_); (try clear hnew_); (first | rw [← Ny181.out] at ho18 | (simp only [Int.reduceToNat] at ho18; rw [← Ny181.out] at ho18)); have n0_ := Aside0.mk (Kd.R_lower ho18 (below_size (by repeat (first | (with_reducible first | exact HB.out | apply below_alloc | apply pw_below_drewN | apply below_drew1) | exact HB.out)))); have n1_ := Aside0.mk (below_step (by repeat (first | (with_reducible first | exact HB.out | apply below_alloc | apply pw_below_drewN | apply below_drew1) | exact HB.out)) hb); clear HB; have HO183 := n0_; have HB := n1_; clear n0_ n1_; (try clear hb); (try clear ho18); obtain ⟨Ao19, co19, eo19⟩ := Kd.R_slice HO183.out; subst eo19) | ((first | (with_reducible refine gate_callee (f := 105) rfl ?_); refine goesL_ (some 16) rfl rfl Tryz.func105 (by kernel_rfl) rfl #[.slice A1 l1.length c1, .slice Ao19 y181.length co19] rfl (by (try simp only [List.map_toArray, List.map_cons, List.map_nil]); first | done | rfl | (simp only [List.length_drop, List.length_take]; rfl)) ?_ | go_at_call 105); (with_reducible refine (bytes_Count.calls _ _ l1 _ _ y181 t184 _ ?side1 ?side2 ?side3 ?side4 A5.out).mono ?_); (case side1 => repeat (first | exact (Kd.C_below HR1.out HB.out) | (with_reducible refine Kd.C_alloc ?_ _) | (with_reducible refine Kd.C_drewN ?_ _) | (with_reducible refine Kd.C_drew ?_))); (case side2 => exact HC1.out); (case side3 => repeat (first | exact (Kd.R_reads' HO183.out).2.2 | (with_reducible refine Kd.C_alloc ?_ _) | (with_reducible refine Kd.C_drewN ?_ _) | (with_reducible refine Kd.C_drew ?_))); (case side4 => exact (Kd.R_reads' HO183.out).2.1); rintro e w' ⟨rfl, ⟨nd, rfl⟩⟩; (try refine ⟨_, rfl, ?_⟩)))
    go_ret2
    exact ⟨by first | rfl | (simp [errW_none, errW_some] <;> rfl) | (simp [*, errW_none, errW_some] <;> rfl), by repeat (first | (with_reducible first | exact HB.out | apply below_alloc | apply pw_below_drewN | apply below_drew1) | exact HB.out)⟩
  ·rw [if_neg c4] at H
   have c4b0 : (a0 == 1) = false := beq_eq_false_iff_ne.mpr c4
   have c4b1 : (a0 != 1) = true := bne_iff_ne.mpr c4
   simp only [Option.some.injEq, Prod.mk.injEq] at H
   obtain ⟨rfl, rfl⟩ := H
   go_enter Tryz.func63, Tryz.ntmps63
   go_wp2
   go_ret2
   exact ⟨by first | rfl | (simp [errW_none, errW_some] <;> rfl) | (simp [*, errW_none, errW_some] <;> rfl), by repeat (first | (with_reducible first | exact HB.out | apply below_alloc | apply pw_below_drewN | apply below_drew1) | exact HB.out)⟩
end Go.Proofs.YtdiojfaenfggkaaGreat.PTopNear
namespace Go.Proofs.YtdiojfaenfggkaaGreat.PTopNear
open Go.RowKit Go.Proofs.YtdiojfaenfggkaaGreatW.PrintWords Go.Proofs.YtdiojfaenfggkaaGreatW.PrintLast Go.Proofs.YtdiojfaenfggkaaGreatW.PrintMore
attribute [local go_sem] max2_int min2_int max_two min_two max_three min_three max_four min_four
set_option linter.unusedVariables false
set_option linter.unusedSimpArgs false
def trim_count.f (a0 : Int) : Option (Bool) := if a0 ≥ 0 then (some (decide (a0 ≤ 1048576))) else (some false)
set_option maxHeartbeats 8000000 in
set_option maxRecDepth 100000 in
theorem trim_count.calls (a0 : Int) (r : Bool) (w : World) (h : trim_count.f a0 = some r) :
  Calls Tryz.prog 76 #[.int .i64 a0] w fun e w' => e = .returned (.bool r) ∧ Drawn0 w w' := by
 have H : (if a0 ≥ 0 then (some (decide (a0 ≤ 1048576))) else (some false)) = some r := h
 clear h
 by_cases c2 : a0 ≥ 0
 ·rw [if_pos c2] at H
  have c2b0 : decide (0 ≤ a0) = true := decide_eq_true c2
  clear c2
  obtain rfl := Option.some.inj H
  go_enter Tryz.func76, Tryz.ntmps76
  go_wp2
  go_ret
  exact ⟨by first | rfl | (simp; done) | (simp [*]; done), by repeat (first | exact Drawn0.refl _ | apply Drawn0.step)⟩
 ·rw [if_neg c2] at H
  have c2b0 : decide (0 ≤ a0) = false := decide_eq_false c2
  clear c2
  obtain rfl := Option.some.inj H
  go_enter Tryz.func76, Tryz.ntmps76
  go_wp2
  go_ret
  exact ⟨by first | rfl | (simp; done) | (simp [*]; done), by repeat (first | exact Drawn0.refl _ | apply Drawn0.step)⟩
def pairs_is.f (l0 : List Int) (a1 : Int) : Option (Bool) := if a1 ≥ 0 then (some (decide (a1 < (l0.length : Int)))) else (some false)
set_option maxHeartbeats 8000000 in
set_option maxRecDepth 100000 in
theorem pairs_is.calls (A0 : Option Addr) (c0 : Nat) (l0 : List Int) (a1 : Int) (r : Bool) (w : World) (hr0 : Kd.C (Kd.int .i64) w A0 l0.length l0) (hc0 : l0.length ≤ c0) (h : pairs_is.f l0 a1 = some r) :
  Calls Tryz.prog 132 #[.slice A0 l0.length c0, .int .i64 a1] w fun e w' => e = .returned (.bool r) ∧ Drawn0 w w' := by
 have HR0 := Aside0.mk hr0
 have HC0 := Aside0.mk hc0
 clear hr0 hc0
 have H : (if a1 ≥ 0 then (some (decide (a1 < (l0.length : Int)))) else (some false)) = some r := h
 clear h
 by_cases c3 : a1 ≥ 0
 ·rw [if_pos c3] at H
  have c3b0 : decide (0 ≤ a1) = true := decide_eq_true c3
  clear c3
  obtain rfl := Option.some.inj H
  go_enter Tryz.func132, Tryz.ntmps132
  go_wp2
  go_ret
  exact ⟨by first | rfl | (simp; done) | (simp [*]; done), by repeat (first | exact Drawn0.refl _ | apply Drawn0.step)⟩
 ·rw [if_neg c3] at H
  have c3b0 : decide (0 ≤ a1) = false := decide_eq_false c3
  clear c3
  obtain rfl := Option.some.inj H
  go_enter Tryz.func132, Tryz.ntmps132
  go_wp2
  go_ret
  exact ⟨by first | rfl | (simp; done) | (simp [*]; done), by repeat (first | exact Drawn0.refl _ | apply Drawn0.step)⟩
def tattingtop_wide.f  : Option (Int × Int) := some (1000, 1099511627776)
set_option maxHeartbeats 8000000 in
set_option maxRecDepth 100000 in
theorem tattingtop_wide.calls  (r1 : Int) (r2 : Int) (w : World) (h : tattingtop_wide.f  = some (r1, r2)) :
  Calls Tryz.prog 13 #[] w fun e w' => e = .returned (.agg #[.int .i64 r1, .int .i64 r2]) ∧ Below w.heap.size w w' := by
 have hu40 := Tryz.underlying40
 have HB := Aside0.mk (Below.refl w.heap.size w)
 have H : (some (1000, 1099511627776)) = some (r1, r2) := h
 clear h
 simp only [Option.some.injEq, Prod.mk.injEq] at H
 obtain ⟨rfl, rfl⟩ := H
 go_enter Tryz.func13, Tryz.ntmps13
 go_wp2_with (first | ((with_reducible refine gate_dst (N := 0) rfl ?_); refine box_event ?hg (N := 0) ?hd (cs := #[.int .i64 0, .int .i64 0]) (t := 40) ?hr ?_; (case hd => rfl); (case hg => rfl); (case hr => first | (go_simp; done) | (go_simp; rfl)); intro gb101 hg w1 hbox hb; have n0_ := Aside0.mk (below_step (by repeat (first | (with_reducible first | exact HB.out | apply below_alloc | apply pw_below_drewN | apply below_drew1) | exact HB.out)) hb); have n1_ := Aside0.mk (hbox); have n2_ := Aside0.mk ((by rw [hg]; exact (below_size (by repeat (first | (with_reducible first | exact HB.out | apply below_alloc | apply pw_below_drewN | apply below_drew1) | exact HB.out))) : w.heap.size ≤ gb101)); have n3_ := Aside0.mk ((by rw [hg]; exact (below_size (by repeat (first | (with_reducible first | exact HB.out | apply below_alloc | apply pw_below_drewN | apply below_drew1) | exact HB.out))) : w.heap.size ≤ gb101)); clear HB; have HB := n0_; have BK101 := n1_; have GW101 := n2_; have GE101 := n3_; clear n0_ n1_ n2_ n3_; (try clear hb); (try clear hbox); (try clear hg); have hcz2_0 : w1.cell? ⟨gb101, 0, none⟩ = some (.int .i64 0) := (blk_cell BK101.out 0).trans rfl; have hcz2_1 : w1.cell? ⟨gb101, 1, none⟩ = some (.int .i64 0) := (blk_cell BK101.out 1).trans rfl; have hfz2_0 := blk_frozen BK101.out 0; have hfz2_1 := blk_frozen BK101.out 1))
 refine bodyPost_ret (results_cell_row rfl _ _ gb101 40 #[.int .i64 1000, .int .i64 1099511627776] (0, 0) _ rfl (by (with_reducible repeat (first | refine blk_drewN ?_ _ | refine blk_drew ?_ | refine blk_alloc ?_ _)); refine blk_put (cs := #[.int .i64 1000, .int .i64 0]) ?_ 1 _ rfl; (with_reducible repeat (first | refine blk_drewN ?_ _ | refine blk_drew ?_ | refine blk_alloc ?_ _)); refine blk_put (cs := #[.int .i64 0, .int .i64 0]) ?_ 0 _ rfl; (with_reducible repeat (first | refine blk_drewN ?_ _ | refine blk_drew ?_ | refine blk_alloc ?_ _)); exact BK101.out) Tryz.underlying40 rfl (by kernel_rfl)) rfl ?_
 exact ⟨by first | rfl | (simp [errW_none, errW_some] <;> rfl) | (simp [*, errW_none, errW_some] <;> rfl), by repeat (first | (with_reducible first | exact HB.out | apply below_alloc | apply pw_below_drewN | apply below_drew1 | refine below_set ?_ GE101.out) | exact HB.out)⟩
def walk_Root.l0 : Nat → Int → Int → Option (Int)
 | 0, _, _ => none
 | k + 1, x0, x3 => if (wrap64 (x3 * x3)) < x0 then (walk_Root.l0 k x0 (wrap64 (x3 + 1))) else (some x3)
def walk_Root.f (k : Nat) (a0 : Int) : Option (Int) := walk_Root.l0 k (mn a0 1048576) 1
theorem walk_Root.mono_l : ∀ k, (∀ y0 y1, LeO (walk_Root.l0 k y0 y1) (walk_Root.l0 (k + 1) y0 y1))
 | 0 => fun _ _ r h => by simp [walk_Root.l0] at h
 | k + 1 => by
  have ih0 := walk_Root.mono_l k
  ·intro y0 y1
   unfold walk_Root.l0
   repeat' first
   | (with_reducible exact ih0 _ _)
   | (with_reducible exact LeO.refl _)
   | (with_reducible exact LeO.none _)
   | (with_reducible refine LeO.ite ?_ ?_)
   | (with_reducible refine LeO.bind ?_ (fun _ => ?_))
   | exact ih0 _ _
   | exact LeO.none _
   | refine LeO.ite ?_ ?_
   | refine LeO.bind ?_ (fun _ => ?_)
theorem walk_Root.mono : ∀ a0 k, LeO (walk_Root.f k a0) (walk_Root.f (k + 1) a0) := by
 intro a0 k
 have ih0 := walk_Root.mono_l k
 unfold walk_Root.f
 repeat' first
   | (with_reducible exact ih0 _ _)
   | (with_reducible exact LeO.refl _)
   | (with_reducible exact LeO.none _)
   | (with_reducible refine LeO.ite ?_ ?_)
   | (with_reducible refine LeO.bind ?_ (fun _ => ?_))
   | exact ih0 _ _
   | exact LeO.none _
   | refine LeO.ite ?_ ?_
   | refine LeO.bind ?_ (fun _ => ?_)
set_option maxHeartbeats 8000000 in
set_option maxRecDepth 100000 in
theorem walk_Root.calls (k : Nat) (a0 : Int) (r : Int) (w : World) (h : walk_Root.f k a0 = some r) :
  Calls Tryz.prog 75 #[.int .i64 a0] w fun e w' => e = .returned (.int .i64 r) ∧ Below w.heap.size w w' := by
 have HB := Aside0.mk (Below.refl w.heap.size w)
 have H : (walk_Root.l0 k (mn a0 1048576) 1) = some r := h
 clear h
 obtain ⟨ji2, hji2⟩ : ∃ j_ : Int, (mn a0 1048576) = j_ := ⟨_, rfl⟩
 replace H : (walk_Root.l0 k ji2 1) = some r := by first | (rw [hji2] at H; exact H) | (simp only [hji2] at H ⊢; exact H)
 (try (have hji2h : ji2 ≤ 1048576 := by (rw [← hji2]; unfold mn; (repeat' split) <;> omega)))
 (try (have hji2g : ji2 ≤ 64 := by omega))
 have hji2_ : (if 1048576 < a0 then 1048576 else a0) = ji2 := hji2
 have H' := Aside0.mk H
 clear H
 go_enter Tryz.func75, Tryz.ntmps75
 go_wp2
 go_loopg [3] k (fun kq v3 w' => ∃ (x3_1 : Int), v3 = .int .i64 x3_1 ∧ Aside0 (walk_Root.l0 kq ji2 x3_1 = some r) ∧ Aside0 (kq ≤ k) ∧ Aside0 (Below w.heap.size w w'))
 case atStart => exact ⟨(1), (by first | rfl | (simp; done) | (simp [*]; done)), H', ⟨Nat.le_refl _⟩, ⟨by repeat (first | (with_reducible first | exact HB.out | apply below_alloc | apply pw_below_drewN | apply below_drew1) | exact HB.out)⟩⟩
 case round =>
  clear H'
  try clear p2
  obtain ⟨x3_1, rfl, HA, HK1, HB⟩ := hrel
  cases gk with
  | zero => exact absurd HA.out (by simp [walk_Root.l0])
  | succ k1 =>
   have H := HA.out
   clear HA
   simp only [walk_Root.l0] at H
   by_cases c3 : (wrap64 (x3_1 * x3_1)) < ji2
   ·rw [if_pos c3] at H
    have c3b0 : decide ((wrap64 (x3_1 * x3_1)) < ji2) = true := decide_eq_true c3
    clear c3
    have H' := Aside0.mk H
    clear H
    go_wp2
    go_roundg k1
    case measure => have := HK1.out; omega
    case rel => exact ⟨(wrap64 (x3_1 + 1)), (by first | rfl | (simp; done) | (simp [*]; done)), H', ⟨by have := HK1.out; omega⟩, ⟨by repeat (first | (with_reducible first | exact HB.out | apply below_alloc | apply pw_below_drewN | apply below_drew1) | exact HB.out)⟩⟩
   ·rw [if_neg c3] at H
    have c3b0 : decide ((wrap64 (x3_1 * x3_1)) < ji2) = false := decide_eq_false c3
    clear c3
    obtain rfl := Option.some.inj H
    go_wp2
    go_ret
    exact ⟨by first | rfl | (simp [errW_none, errW_some] <;> rfl) | (simp only [← hji2]; first | rfl | (simp [errW_none, errW_some] <;> rfl)) | (simp [*, errW_none, errW_some] <;> rfl), by repeat (first | (with_reducible first | exact HB.out | apply below_alloc | apply pw_below_drewN | apply below_drew1) | exact HB.out)⟩
end Go.Proofs.YtdiojfaenfggkaaGreat.PTopNear
namespace Go.Proofs.YtdiojfaenfggkaaGreat.PTopNear
open Go.RowKit Go.Proofs.YtdiojfaenfggkaaGreatW.PrintWords Go.Proofs.YtdiojfaenfggkaaGreatW.PrintLast Go.Proofs.YtdiojfaenfggkaaGreatW.PrintMore
attribute [local go_sem] max2_int min2_int max_two min_two max_three min_three max_four min_four
set_option linter.unusedVariables false
set_option linter.unusedSimpArgs false
theorem count_some (n : Nat) (h : n ≤ 1000) : trim_count.f (n : Int) = some true := by
  unfold trim_count.f
  rw [if_pos (by omega), decide_eq_true (by omega)]
def diagL (n m : Nat) : Nat → List (Nat × Nat) := fun s => (List.range s).map fun i => (n + i, m + i)
def growL (p s n m : Nat) (qs : List (Nat × Nat)) : List (Nat × Nat) := diagL 0 0 p ++ qs.map (fun q => (q.1 + p, q.2 + p)) ++ diagL (n - s) (m - s) s
theorem diagL_snoc (n m s : Nat) : diagL n m (s + 1) = diagL n m s ++ [(n + s, m + s)] := by unfold diagL; rw [List.range_succ, List.map_append]; rfl
theorem rd_T54_toP (qs : List (Nat × Nat)) (k : Nat) (h : k < qs.length) : rd_T54 (qs.map toP) (k : Int) = ⟨(qs[k].1 : Nat), (qs[k].2 : Nat)⟩ := by
  unfold rd_T54
  rw [Int.toNat_natCast]
  simp [List.getD_eq_getElem?_getD, h, toP]
set_option maxHeartbeats 8000000 in
set_option maxRecDepth 100000 in
theorem trim_Grow.small (A : Option Addr) (c : Nat) (qs : List (Nat × Nat)) (p s n m : Nat) (w : World) (hr : Kd.C k54 w A qs.length (qs.map toP)) (hn : n ≤ 1000) (hm : m ≤ 1000) (h1 : p + s ≤ n) (h2 : p + s ≤ m) (hq : ∀ q ∈ qs, q.1 < n - p - s ∧ q.2 < m - p - s) (hl : qs.length ≤ 1000) :
    Calls Tryz.prog 40 #[.slice A qs.length c, .int .i64 p, .int .i64 s, .int .i64 n, .int .i64 m] w fun e w' => ∃ v, e = .returned (.tuple #[v, .int .i64 0]) ∧ Kd.R k54 54 w' w.heap.size (fun _ => True) v ((growL p s n m qs).map toP) ∧ Below w.heap.size w w' := by
  have HR := Aside0.mk hr
  have HQ := Aside0.mk hq
  clear hr hq
  have C0 := Aside0.mk (count_some n hn)
  have C1 := Aside0.mk (count_some m hm)
  have t1 : decide ((p : Int) < 0) = false := decide_eq_false (by omega)
  have t2 : decide ((s : Int) < 0) = false := decide_eq_false (by omega)
  obtain ⟨k, hk⟩ : ∃ k : Int, k = if (m : Int) < (n : Int) then (m : Int) else (n : Int) := ⟨_, rfl⟩
  have hk1 : (p : Int) + s ≤ k ∧ k ≤ 1000 := by rw [hk]; split <;> omega
  have t3 : decide (k < (p : Int)) = false := decide_eq_false (by omega)
  have t4 : decide (k - (p : Int) < (s : Int)) = false := decide_eq_false (by omega)
  rw [hk] at t3 t4
  clear hk hk1 k
  go_enter Tryz.func40, Tryz.ntmps40
  go_upto_region 1 with fail
  go_cut [48] (fun v48 wc => v48 = .bool false ∧ Aside0 (Below w.heap.size w wc))
  case first =>
    go_wp2_with (first
      | (go_at_call 76; ((with_reducible refine (trim_count.calls _ _ _ C0.out).mono ?_); rintro e w1 ⟨rfl, nd, rfl⟩))
      | (go_at_call 76; ((with_reducible refine (trim_count.calls _ _ _ C1.out).mono ?_); rintro e w1 ⟨rfl, nd1, rfl⟩)))
    all_goals
      go_meet
      case rel => exact ⟨by first | rfl | (simp; omega) | simp, ⟨pw_below_drewN (Below.refl w.heap.size w) (nd + nd1)⟩⟩
  case rest =>
    obtain ⟨rfl, HB0⟩ := hcut
    clear C0 C1 t1 t2 t3 t4
    go_wp2_with fail
    go_loopw [50, 12] (fun v50 v12 wr => ∃ i : Nat, i ≤ p ∧ v50 = .int .i64 i ∧ Aside0 (Below w.heap.size w wr) ∧ Aside0 (Kd.R k54 54 wr w.heap.size (fun _ => True) v12 ((diagL 0 0 i).map toP))) (fun v50 _ _ => p - (intOf v50).toNat)
    case atStart => exact ⟨0, by omega, rfl, HB0, ⟨Kd.R_nil _ _ _ _ _⟩⟩
    case round =>
      clear HB0
      obtain ⟨i, hi, rfl, HB, HL⟩ := hrel
      by_cases hlt : i < p
      · have c0 : decide ((i : Int) < (p : Int)) = true := decide_eq_true (by omega)
        have HLN := Aside0.mk (show ((diagL 0 0 i).map toP).length ≤ 1000 by simp [diagL]; omega)
        have hs := HB.out.size
        go_wp2_with (first
          | ((with_reducible refine gate_builtin (b := .append) (xs := #[.tmp 53, .tmp 57]) rfl ?_); refine Kd.R_append k54 (w0 := w) w.heap.size rfl (.tmp 53) (.tmp 57) 32 54 (.agg #[(.int .i64 0), (.int .i64 0)]) 16 rfl Tryz.underlying32 info54 rfl (by decide) (by omega) u12 ((diagL 0 0 i).map toP) (⟨i, i⟩ : S54) [.int .i64 i, .int .i64 i] (fun _ => True) (fun _ => False) rfl rfl (k54_mkM _ _ _ (⟨i, i⟩ : S54)) (fun _ hk => hk.elim) (fun _ _ => trivial) HL.out HB.out hs (by have := HLN.out; omega) ?_; intro v5 w5 ho hb hg hat; have HO5 := Aside0.mk ho; have HB5 := Aside0.mk hb; clear ho hb hg hat))
        go_roundw
        case rel =>
          refine ⟨i + 1, by omega, by go_num, HB5, ⟨?_⟩⟩
          rw [diagL_snoc, List.map_append, Nat.zero_add]
          exact HO5.out
        case measure => simp [intOf]; omega
      · obtain rfl : i = p := by omega
        have c0 : decide ((i : Int) < (i : Int)) = false := decide_eq_false (by omega)
        go_wp2_with fail
        go_loopw [62, 12] (fun v62 v12 wr => ∃ k : Nat, k ≤ qs.length ∧ v62 = .int .i64 k ∧ Aside0 (Below w.heap.size w wr) ∧ Aside0 (Kd.R k54 54 wr w.heap.size (fun _ => True) v12 ((diagL 0 0 i ++ (qs.take k).map (fun q => (q.1 + i, q.2 + i))).map toP))) (fun v62 _ _ => qs.length - (intOf v62).toNat)
        case atStart => exact ⟨0, by omega, rfl, HB, ⟨by simpa using HL.out⟩⟩
        case round =>
          clear HB HL
          obtain ⟨k, hk, rfl, HB, HL⟩ := hrel
          by_cases hlt : k < qs.length
          · have c1 : decide ((k : Int) < (qs.length : Int)) = true := decide_eq_true (by omega)
            obtain ⟨ad, rfl, hx, hy⟩ := at_T54 (Kd.C_below HR.out HB.out) (k : Int) (by omega) (by omega)
            rw [rd_T54_toP qs k hlt, Int.toNat_natCast] at hx hy
            obtain ⟨b1, b2⟩ := HQ.out _ (List.getElem_mem hlt)
            have HT := Aside0.mk (show qs.take (k + 1) = qs.take k ++ [qs[k]] from List.take_succ_eq_append_getElem hlt)
            generalize qs[k] = q at hx hy b1 b2 HT
            obtain ⟨x, y⟩ := q
            simp only at hx hy b1 b2
            have g0 : (0 : Int) ≤ (k : Int) := by omega
            have g1 : (k : Int) < (qs.length : Int) := by omega
            have d1 : decide ((x : Int) < 0) = false := decide_eq_false (by omega)
            have d2 : decide ((n : Int) - (i : Int) - (s : Int) ≤ (x : Int)) = false := decide_eq_false (by omega)
            have d3 : decide ((y : Int) < 0) = false := decide_eq_false (by omega)
            have d4 : decide ((m : Int) - (i : Int) - (s : Int) ≤ (y : Int)) = false := decide_eq_false (by omega)
            have HLN := Aside0.mk (show ((diagL 0 0 i ++ (qs.take k).map (fun q => (q.1 + i, q.2 + i))).map toP).length ≤ 2000 by simp [diagL]; omega)
            go_upto_region 12 with fail
            have hba := Aside0.mk (below_alloc HB.out (Obj.cells #[.int .i64 x, .int .i64 y] 54))
            have hla := Aside0.mk (Kd.R_alloc HL.out (Obj.cells #[.int .i64 x, .int .i64 y] 54))
            have HG := Aside0.mk (alloc_at wr (Obj.cells #[.int .i64 x, .int .i64 y] 54))
            clear HB HL hx hy
            generalize wr.alloc (Obj.cells #[.int .i64 x, .int .i64 y] 54) = w2 at hba hla HG ⊢
            generalize wr.heap.size = bx at HG ⊢
            have hz0 : w2.cell? ⟨bx, 0, none⟩ = some (.int .i64 x) := (blk_cell HG.out 0).trans rfl
            have hz1 : w2.cell? ⟨bx, 1, none⟩ = some (.int .i64 y) := (blk_cell HG.out 1).trans rfl
            have hsa := hba.out.size
            go_wp2_with (first
              | ((with_reducible refine gate_builtin (b := .append) (xs := #[.tmp 94, .tmp 104]) rfl ?_); refine Kd.R_append k54 (w0 := w) w.heap.size rfl (.tmp 94) (.tmp 104) 32 54 (.agg #[(.int .i64 0), (.int .i64 0)]) 16 rfl Tryz.underlying32 info54 rfl (by decide) (by omega) u12 _ (⟨(x : Int) + (i : Int), (y : Int) + (i : Int)⟩ : S54) [.int .i64 ((x : Int) + (i : Int)), .int .i64 ((y : Int) + (i : Int))] (fun _ => True) (fun _ => False) rfl rfl (k54_mkM _ _ _ (⟨(x : Int) + (i : Int), (y : Int) + (i : Int)⟩ : S54)) (fun _ hk => hk.elim) (fun _ _ => trivial) hla.out hba.out hsa (by have := HLN.out; omega) ?_; intro v5 w5 ho hb hg hat; have HO5 := Aside0.mk ho; have HB5 := Aside0.mk hb; clear ho hb hg hat))
            go_roundw
            case rel =>
              refine ⟨k + 1, by omega, by go_num, HB5, ⟨?_⟩⟩
              rw [HT.out, show (diagL 0 0 i ++ (qs.take k ++ [(x, y)]).map (fun q => (q.1 + i, q.2 + i))).map toP = (diagL 0 0 i ++ (qs.take k).map (fun q => (q.1 + i, q.2 + i))).map toP ++ [⟨(x : Int) + (i : Int), (y : Int) + (i : Int)⟩] by simp [toP]]
              exact HO5.out
            case measure => simp [intOf]; omega
          · obtain rfl : k = qs.length := by omega
            have c1 : decide ((qs.length : Int) < (qs.length : Int)) = false := decide_eq_false (by omega)
            have HTK := Aside0.mk (show qs.take qs.length = qs from List.take_length)
            rw [HTK.out] at HL
            go_wp2_with fail
            go_loopw [16, 12] (fun v16 v12 wr => ∃ j k : Nat, j + k = s ∧ v16 = .int .i64 k ∧ Aside0 (Below w.heap.size w wr) ∧ Aside0 (Kd.R k54 54 wr w.heap.size (fun _ => True) v12 ((diagL 0 0 i ++ qs.map (fun q => (q.1 + i, q.2 + i)) ++ diagL (n - s) (m - s) j).map toP))) (fun v16 _ _ => (intOf v16).toNat)
            case atStart => exact ⟨0, s, by omega, rfl, HB, ⟨by simpa [diagL] using HL.out⟩⟩
            case round =>
              clear HB HL
              obtain ⟨j, k, hjk, rfl, HB, HL⟩ := hrel
              have HJK := Aside0.mk hjk
              have hj1 : j ≤ s := by omega
              have hj2 : k ≤ s := by omega
              by_cases hlt : 0 < k
              · have c2 : decide (0 < (k : Int)) = true := decide_eq_true (by omega)
                have HV := Aside0.mk (show (⟨(n : Int) - (k : Int), (m : Int) - (k : Int)⟩ : S54) = toP (n - s + j, m - s + j) by unfold toP; congr 1 <;> simp only <;> omega)
                have HLN := Aside0.mk (show ((diagL 0 0 i ++ qs.map (fun q => (q.1 + i, q.2 + i)) ++ diagL (n - s) (m - s) j).map toP).length ≤ 4000 by simp [diagL]; omega)
                obtain ⟨k1, hk1⟩ : ∃ k1, k = k1 + 1 := ⟨k - 1, by omega⟩
                have a1 : k1 + 1 ≤ k := by omega
                have HK1 := Aside0.mk (show (k : Int) - 1 = (k1 : Int) by omega)
                have HJ1 := Aside0.mk (show (j + 1) + k1 = s by omega)
                clear hjk hk1
                have hs := HB.out.size
                go_wp2_with (first
                  | ((with_reducible refine gate_builtin (b := .append) (xs := #[.tmp 112, .tmp 120]) rfl ?_); refine Kd.R_append k54 (w0 := w) w.heap.size rfl (.tmp 112) (.tmp 120) 32 54 (.agg #[(.int .i64 0), (.int .i64 0)]) 16 rfl Tryz.underlying32 info54 rfl (by decide) (by omega) u12 _ (⟨(n : Int) - (k : Int), (m : Int) - (k : Int)⟩ : S54) [.int .i64 ((n : Int) - (k : Int)), .int .i64 ((m : Int) - (k : Int))] (fun _ => True) (fun _ => False) rfl rfl (k54_mkM _ _ _ (⟨(n : Int) - (k : Int), (m : Int) - (k : Int)⟩ : S54)) (fun _ hk => hk.elim) (fun _ _ => trivial) HL.out HB.out hs (by have := HLN.out; omega) ?_; intro v5 w5 ho hb hg hat; have HO5 := Aside0.mk ho; have HB5 := Aside0.mk hb; clear ho hb hg hat))
                go_roundw
                case rel =>
                  refine ⟨j + 1, k1, HJ1.out, by rw [HK1.out], HB5, ⟨?_⟩⟩
                  have h := HO5.out
                  rw [HV.out] at h
                  rw [diagL_snoc, show (diagL 0 0 i ++ qs.map (fun q => (q.1 + i, q.2 + i)) ++ (diagL (n - s) (m - s) j ++ [(n - s + j, m - s + j)])).map toP = (diagL 0 0 i ++ qs.map (fun q => (q.1 + i, q.2 + i)) ++ diagL (n - s) (m - s) j).map toP ++ [toP (n - s + j, m - s + j)] by simp]
                  exact h
                case measure => simp [intOf]; omega
              · have c2 : decide (0 < (k : Int)) = false := decide_eq_false (by omega)
                have HZ := Aside0.mk (show j = s by omega)
                clear hjk
                go_wp2
                go_ret2
                have h := HL.out
                rw [HZ.out] at h
                exact ⟨_, rfl, h, HB.out⟩
end Go.Proofs.YtdiojfaenfggkaaGreat.PTopNear
namespace Go.Proofs.YtdiojfaenfggkaaGreat.PTopNear
open Go.RowKit Go.Proofs.YtdiojfaenfggkaaGreatW.PrintWords Go.Proofs.YtdiojfaenfggkaaGreatW.PrintLast Go.Proofs.YtdiojfaenfggkaaGreatW.PrintMore
attribute [local go_sem] max2_int min2_int max_two min_two max_three min_three max_four min_four
set_option linter.unusedVariables false
set_option linter.unusedSimpArgs false
structure GoodN (a b : List Int) (qs : List (Nat × Nat)) : Prop where
  at_ : ∀ q ∈ qs, q.1 < a.length ∧ q.2 < b.length ∧ rd a q.1 = rd b q.2
  rise : qs.Pairwise (fun x y => x.1 < y.1 ∧ x.2 < y.2)
def aheadP (qs : List (Nat × Nat)) (k : Nat) : Int × Int := if k = 0 then (-1, -1) else (((qs.getD (k - 1) (0, 0)).1 : Nat), ((qs.getD (k - 1) (0, 0)).2 : Nat))
theorem aheadP_lt {a b : List Int} {qs : List (Nat × Nat)} (h : GoodN a b qs) {k : Nat} (hk : k < qs.length) : (aheadP qs k).1 < (qs[k].1 : Int) ∧ (aheadP qs k).2 < (qs[k].2 : Int) := by
  unfold aheadP
  split
  · simp only; omega
  · have := List.pairwise_iff_getElem.1 h.rise (k - 1) k (by omega) hk (by omega)
    rw [List.getD_eq_getElem?_getD, List.getElem?_eq_getElem (by omega)]
    simp only [Option.getD_some]
    omega
theorem is_some (l : List Int) (i : Nat) (h : i < l.length) : pairs_is.f l (i : Int) = some true := by
  unfold pairs_is.f
  rw [if_pos (by omega), decide_eq_true (by omega)]
set_option maxHeartbeats 8000000 in
set_option maxRecDepth 100000 in
theorem pairs_Good.good (A0 A1 A2 : Option Addr) (c0 c1 c2 : Nat) (a b : List Int) (qs : List (Nat × Nat)) (w : World) (hr0 : Kd.C (Kd.int .i64) w A0 a.length a) (hc0 : a.length ≤ c0) (hr1 : Kd.C (Kd.int .i64) w A1 b.length b) (hc1 : b.length ≤ c1) (hr2 : Kd.C k54 w A2 qs.length (qs.map toP)) (hg : GoodN a b qs) (hl : qs.length ≤ 1000) (ha : a.length ≤ 1000) (hb : b.length ≤ 1000) :
    Calls Tryz.prog 77 #[.slice A0 a.length c0, .slice A1 b.length c1, .slice A2 qs.length c2] w fun e w' => e = .returned (.bool true) ∧ Below w.heap.size w w' := by
  have H0 := Aside0.mk hr0
  have H1 := Aside0.mk hr1
  have H2 := Aside0.mk hr2
  have HC0 := Aside0.mk hc0
  have HC1 := Aside0.mk hc1
  have HG := Aside0.mk hg
  clear hr0 hr1 hr2 hc0 hc1 hg
  go_enter Tryz.func77, Tryz.ntmps77
  go_wp2_with fail
  have HB := Aside0.mk (below_alloc (Below.refl w.heap.size w) (Obj.cells #[.int .i64 (-1), .int .i64 (-1)] 54))
  have HL := Aside0.mk (alloc_at w (Obj.cells #[.int .i64 (-1), .int .i64 (-1)] 54))
  generalize w.alloc (Obj.cells #[.int .i64 (-1), .int .i64 (-1)] 54) = w1 at HB HL ⊢
  go_loopw [13] (fun v13 wr => ∃ k : Nat, k ≤ qs.length ∧ v13 = .int .i64 k ∧ Aside0 (Below w.heap.size w wr) ∧ Aside0 (wr.heap[w.heap.size]? = some (.cells #[.int .i64 (aheadP qs k).1, .int .i64 (aheadP qs k).2] 54 (0, 0)))) (fun v13 _ => qs.length - (intOf v13).toNat)
  case atStart => exact ⟨0, by omega, rfl, HB, HL⟩
  case round =>
    clear HB HL
    obtain ⟨k, hk, rfl, HB, HL⟩ := hrel
    by_cases hlt : k < qs.length
    · have tk : decide ((k : Int) < (qs.length : Int)) = true := decide_eq_true (by omega)
      obtain ⟨ad, rfl, hx, hy⟩ := at_T54 (Kd.C_below H2.out HB.out) (k : Int) (by omega) (by omega)
      rw [rd_T54_toP qs k hlt, Int.toNat_natCast] at hx hy
      obtain ⟨b1, b2, b3⟩ := HG.out.at_ _ (List.getElem_mem hlt)
      obtain ⟨l1, l2⟩ := aheadP_lt HG.out hlt
      have HN := Aside0.mk (show aheadP qs (k + 1) = (((qs[k].1 : Nat) : Int), ((qs[k].2 : Nat) : Int)) by unfold aheadP; rw [if_neg (by omega)]; simp [List.getD_eq_getElem?_getD, hlt])
      generalize qs[k] = q at hx hy b1 b2 b3 l1 l2 HN
      obtain ⟨x, y⟩ := q
      simp only at hx hy b1 b2 b3 l1 l2
      have S0 := Aside0.mk (is_some a x b1)
      have S1 := Aside0.mk (is_some b y b2)
      have g0 : (0 : Int) ≤ (k : Int) := by omega
      have g1 : (k : Int) < (qs.length : Int) := by omega
      go_upto_region 5 with fail
      have n0_ := Aside0.mk (below_alloc HB.out (Obj.cells #[.int .i64 x, .int .i64 y] 54))
      have n1_ := Aside0.mk (blk_alloc HL.out (Obj.cells #[.int .i64 x, .int .i64 y] 54))
      have HX := Aside0.mk (alloc_at wr (Obj.cells #[.int .i64 x, .int .i64 y] 54))
      have HBX := Aside0.mk (Nat.le_of_lt (Nat.lt_of_lt_of_le (blk_lt HL.out) (Nat.le_refl wr.heap.size)))
      have HNE := Aside0.mk (Nat.ne_of_lt (blk_lt HL.out))
      clear HB HL hx hy
      generalize wr.alloc (Obj.cells #[.int .i64 x, .int .i64 y] 54) = w2 at n0_ n1_ HX ⊢
      generalize wr.heap.size = bx at HX HBX HNE ⊢
      generalize aheadP qs k = pq at n1_ l1 l2
      obtain ⟨p, q⟩ := pq
      simp only at n1_ l1 l2
      have hz0 : w2.cell? ⟨bx, 0, none⟩ = some (.int .i64 x) := (blk_cell HX.out 0).trans rfl
      have hz1 : w2.cell? ⟨bx, 1, none⟩ = some (.int .i64 y) := (blk_cell HX.out 1).trans rfl
      have hy0 : w2.cell? ⟨w.heap.size, 0, none⟩ = some (.int .i64 p) := (blk_cell n1_.out 0).trans rfl
      have hy1 : w2.cell? ⟨w.heap.size, 1, none⟩ = some (.int .i64 q) := (blk_cell n1_.out 1).trans rfl
      obtain ⟨ad0, rfl, ha0⟩ := Kd.at_int (Kd.C_below H0.out n0_.out) (x : Int) (by omega) (by omega)
      obtain ⟨ad1, rfl, ha1⟩ := Kd.at_int (Kd.C_below H1.out n0_.out) (y : Int) (by omega) (by omega)
      rw [Int.toNat_natCast] at ha0 ha1
      have d0 : (0 : Int) ≤ (x : Int) := by omega
      have d1 : (x : Int) < (a.length : Int) := by omega
      have d2 : (0 : Int) ≤ (y : Int) := by omega
      have d3 : (y : Int) < (b.length : Int) := by omega
      have t1 : (rd a (x : Int) != rd b (y : Int)) = false := by rw [b3]; simp
      have t2 : decide ((x : Int) ≤ p) = false := decide_eq_false (by omega)
      have t3 : decide ((y : Int) ≤ q) = false := decide_eq_false (by omega)
      clear b3
      have HP0 := Aside0.mk (fun n => (pairs_is.calls (some ad0) c0 a (x : Int) true (w2.drewN n) (Kd.C_drewN (Kd.C_below H0.out n0_.out) n) HC0.out S0.out).mono (fun e w' hp => (⟨hp.1, hp.2.out⟩ : e = .returned (.bool true) ∧ ∃ m, w' = (w2.drewN n).drewN m)))
      have HP1 := Aside0.mk (fun n => (pairs_is.calls (some ad1) c1 b (y : Int) true (w2.drewN n) (Kd.C_drewN (Kd.C_below H1.out n0_.out) n) HC1.out S1.out).mono (fun e w' hp => (⟨hp.1, hp.2.out⟩ : e = .returned (.bool true) ∧ ∃ m, w' = (w2.drewN n).drewN m)))
      go_quiet ((first | (go_at_call 132; with_reducible exact Calls.quiet_of (HP0.out _)) | (go_at_call 132; with_reducible exact Calls.quiet_of (HP1.out _))))
      have hbd := pw_below_drewN (Below.refl w2.heap.size w2) nq
      have HB := Aside0.mk (below_step n0_.out hbd)
      have HL := Aside0.mk (blk_below n1_.out hbd)
      have HXX := Aside0.mk (blk_below HX.out hbd)
      have hz0 := pw_cell_below hbd hz0
      have hz1 := pw_cell_below hbd hz1
      have hf0 := blk_frozen HL.out 0
      have hf1 := blk_frozen HL.out 1
      clear n0_ n1_ HX hy0 hy1 ha0 ha1 hbd
      generalize w2.drewN nq = w3 at HB HL HXX hz0 hz1 hf0 hf1 ⊢
      have hy0 : w3.cell? ⟨w.heap.size, 0, none⟩ = some (.int .i64 p) := (blk_cell HL.out 0).trans rfl
      have hy1 : w3.cell? ⟨w.heap.size, 1, none⟩ = some (.int .i64 q) := (blk_cell HL.out 1).trans rfl
      go_wp2_with fail
      go_roundw
      case rel =>
        refine ⟨k + 1, by omega, by go_num, ⟨below_set (below_set HB.out (Nat.le_refl _)) (Nat.le_refl _)⟩, ⟨?_⟩⟩
        rw [HN.out]
        exact blk_put (blk_set HL.out 0 _) 1 _ rfl
      case measure => simp [intOf]; omega
    · obtain rfl : k = qs.length := by omega
      have c1 : decide ((qs.length : Int) < (qs.length : Int)) = false := decide_eq_false (by omega)
      go_wp2
      go_ret
      exact ⟨rfl, HB.out⟩
end Go.Proofs.YtdiojfaenfggkaaGreat.PTopNear
