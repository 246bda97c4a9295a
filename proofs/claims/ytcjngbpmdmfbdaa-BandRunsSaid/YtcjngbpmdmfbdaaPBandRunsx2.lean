/- What the given program's functions come to, each a Lean function and the walk that shows it: no condition beside those that each theorem names. -/
import Derived.Test.YtcjngbpmdmfbdaaPBandRunsx0
import Derived.Test.YtcjngbpmdmfbdaaPBandRunsx1
namespace Go.Proofs.Ytcjngbpmdmfbdaa.PBandRuns
open Go.RowKit Go.Proofs.YtcjngbpmdmfbdaaW.PrintWords Go.Proofs.YtcjngbpmdmfbdaaW.PrintLast Go.Proofs.YtcjngbpmdmfbdaaW.PrintMore
attribute [local go_sem] max2_int min2_int max_two min_two max_three min_three max_four min_four   -- for this text's walks alone
set_option linter.unusedVariables false
set_option linter.unusedSimpArgs false

/-! ### band_next: function 22 -/
mutual
def band_next.l0 : Nat → List Int → List Int → Int → Int → Int → Int → List Int → Int → List Int → Option (Int × List Int)
 | 0, _, _, _, _, _, _, _, _, _ => none
 | k + 1, x0, x1, x2, x14, x16, x109000, x109001, x111000, x111001 => if x16 ≤ x14 then (if x2 = 0 then (band_next.j1 k x0 x1 x2 x14 x16 (x16 == 0) x109000 x109001 x111000 x111001) else (band_next.j1 k x0 x1 x2 x14 x16 false x109000 x109001 x111000 x111001)) else (some (x111000, x111001))
def band_next.j1 : Nat → List Int → List Int → Int → Int → Int → Bool → Int → List Int → Int → List Int → Option (Int × List Int)
 | 0, _, _, _, _, _, _, _, _, _, _ => none
 | k + 1, x0, x1, x2, x14, x16, x46, x109000, x109001, x111000, x111001 => if x46 = true then (if x111001.length < 17592186044416 then (band_next.l0 k x0 x1 x2 x14 (wrap64 (x16 + 1)) x109000 x109001 x111000 (x111001 ++ [0])) else (none)) else (if x2 > 0 then (if x16 > 0 then (if 0 ≤ (wrap64 (x2 - 1)) then (if (wrap64 (x2 - 1)) < (x0.length : Int) then (if 0 ≤ (wrap64 (x16 - 1)) then (if (wrap64 (x16 - 1)) < (x1.length : Int) then (band_next.j2 k x0 x1 x2 x14 x16 ((rd x0 (wrap64 (x2 - 1))) == (rd x1 (wrap64 (x16 - 1)))) x109000 x109001 x111000 x111001) else (none)) else (none)) else (none)) else (none)) else (band_next.j2 k x0 x1 x2 x14 x16 false x109000 x109001 x111000 x111001)) else (band_next.j2 k x0 x1 x2 x14 x16 false x109000 x109001 x111000 x111001))
def band_next.j2 : Nat → List Int → List Int → Int → Int → Int → Bool → Int → List Int → Int → List Int → Option (Int × List Int)
 | 0, _, _, _, _, _, _, _, _, _, _ => none
 | k + 1, x0, x1, x2, x14, x16, x53, x109000, x109001, x111000, x111001 => if x53 = true then ((band_line_at.f x109000 x109001 (wrap64 (x16 - 1))).bind fun t116 => (if x111001.length < 17592186044416 then (band_next.l0 k x0 x1 x2 x14 (wrap64 (x16 + 1)) x109000 x109001 x111000 (x111001 ++ [t116])) else (none))) else ((band_line_at.f x109000 x109001 x16).bind fun t120 => ((band_line_at.f x111000 x111001 (wrap64 (x16 - 1))).bind fun t121 => (if x111001.length < 17592186044416 then (band_next.l0 k x0 x1 x2 x14 (wrap64 (x16 + 1)) x109000 x109001 x111000 (x111001 ++ [mn (mn 1152921504606846976 (wrap64 (t120 + 1))) (wrap64 (t121 + 1))])) else (none))))
end
def band_next.f (k : Nat) (l0 : List Int) (l1 : List Int) (a2 : Int) (a3 : Int) (a4 : Int) (a5_0 : Int) (l5_1 : List Int) : Option (Int × List Int) := band_next.l0 k l0 l1 a2 (mn (l1.length : Int) (wrap64 (a2 - a3))) (mx 0 (wrap64 (a2 - a4))) a5_0 l5_1 (mx 0 (wrap64 (a2 - a4))) ([] : List Int)
theorem band_next.mono_l : ∀ k, (∀ y0 y1 y2 y3 y4 y5 y6 y7 y8, LeO (band_next.l0 k y0 y1 y2 y3 y4 y5 y6 y7 y8) (band_next.l0 (k + 1) y0 y1 y2 y3 y4 y5 y6 y7 y8)) ∧ (∀ y0 y1 y2 y3 y4 y5 y6 y7 y8 y9, LeO (band_next.j1 k y0 y1 y2 y3 y4 y5 y6 y7 y8 y9) (band_next.j1 (k + 1) y0 y1 y2 y3 y4 y5 y6 y7 y8 y9)) ∧ (∀ y0 y1 y2 y3 y4 y5 y6 y7 y8 y9, LeO (band_next.j2 k y0 y1 y2 y3 y4 y5 y6 y7 y8 y9) (band_next.j2 (k + 1) y0 y1 y2 y3 y4 y5 y6 y7 y8 y9))
 | 0 => ⟨fun _ _ _ _ _ _ _ _ _ r h => by simp [band_next.l0] at h, fun _ _ _ _ _ _ _ _ _ _ r h => by simp [band_next.j1] at h, fun _ _ _ _ _ _ _ _ _ _ r h => by simp [band_next.j2] at h⟩
 | k + 1 => by
  obtain ⟨ih0, ih1, ih2⟩ := band_next.mono_l k
  refine ⟨?_, ?_, ?_⟩
  ·intro y0 y1 y2 y3 y4 y5 y6 y7 y8
   unfold band_next.l0
   repeat' first
   | (with_reducible exact ih0 _ _ _ _ _ _ _ _ _)
   | (with_reducible exact ih1 _ _ _ _ _ _ _ _ _ _)
   | (with_reducible exact ih2 _ _ _ _ _ _ _ _ _ _)
   | (with_reducible exact LeO.refl _)
   | (with_reducible exact LeO.none _)
   | (with_reducible refine LeO.ite ?_ ?_)
   | (with_reducible refine LeO.bind ?_ (fun _ => ?_))
   | exact ih0 _ _ _ _ _ _ _ _ _
   | exact ih1 _ _ _ _ _ _ _ _ _ _
   | exact ih2 _ _ _ _ _ _ _ _ _ _
   | exact LeO.none _
   | refine LeO.ite ?_ ?_
   | refine LeO.bind ?_ (fun _ => ?_)
  ·intro y0 y1 y2 y3 y4 y5 y6 y7 y8 y9
   unfold band_next.j1
   repeat' first
   | (with_reducible exact ih0 _ _ _ _ _ _ _ _ _)
   | (with_reducible exact ih1 _ _ _ _ _ _ _ _ _ _)
   | (with_reducible exact ih2 _ _ _ _ _ _ _ _ _ _)
   | (with_reducible exact LeO.refl _)
   | (with_reducible exact LeO.none _)
   | (with_reducible refine LeO.ite ?_ ?_)
   | (with_reducible refine LeO.bind ?_ (fun _ => ?_))
   | exact ih0 _ _ _ _ _ _ _ _ _
   | exact ih1 _ _ _ _ _ _ _ _ _ _
   | exact ih2 _ _ _ _ _ _ _ _ _ _
   | exact LeO.none _
   | refine LeO.ite ?_ ?_
   | refine LeO.bind ?_ (fun _ => ?_)
  ·intro y0 y1 y2 y3 y4 y5 y6 y7 y8 y9
   unfold band_next.j2
   repeat' first
   | (with_reducible exact ih0 _ _ _ _ _ _ _ _ _)
   | (with_reducible exact ih1 _ _ _ _ _ _ _ _ _ _)
   | (with_reducible exact ih2 _ _ _ _ _ _ _ _ _ _)
   | (with_reducible exact LeO.refl _)
   | (with_reducible exact LeO.none _)
   | (with_reducible refine LeO.ite ?_ ?_)
   | (with_reducible refine LeO.bind ?_ (fun _ => ?_))
   | exact ih0 _ _ _ _ _ _ _ _ _
   | exact ih1 _ _ _ _ _ _ _ _ _ _
   | exact ih2 _ _ _ _ _ _ _ _ _ _
   | exact LeO.none _
   | refine LeO.ite ?_ ?_
   | refine LeO.bind ?_ (fun _ => ?_)
theorem band_next.mono : ∀ a0 a1 a2 a3 a4 a5 a6 k, LeO (band_next.f k a0 a1 a2 a3 a4 a5 a6) (band_next.f (k + 1) a0 a1 a2 a3 a4 a5 a6) := by
 intro a0 a1 a2 a3 a4 a5 a6 k
 obtain ⟨ih0, ih1, ih2⟩ := band_next.mono_l k
 unfold band_next.f
 repeat' first
   | (with_reducible exact ih0 _ _ _ _ _ _ _ _ _)
   | (with_reducible exact ih1 _ _ _ _ _ _ _ _ _ _)
   | (with_reducible exact ih2 _ _ _ _ _ _ _ _ _ _)
   | (with_reducible exact LeO.refl _)
   | (with_reducible exact LeO.none _)
   | (with_reducible refine LeO.ite ?_ ?_)
   | (with_reducible refine LeO.bind ?_ (fun _ => ?_))
   | exact ih0 _ _ _ _ _ _ _ _ _
   | exact ih1 _ _ _ _ _ _ _ _ _ _
   | exact ih2 _ _ _ _ _ _ _ _ _ _
   | exact LeO.none _
   | refine LeO.ite ?_ ?_
   | refine LeO.bind ?_ (fun _ => ?_)
def band_next.T7 : Bool × List (List Nat × List Nat) := (true, [([], []), ([], []), ([0, 1], [0, 1]), ([2], [2]), ([], []), ([], []), ([5], [5]), ([4, 6, 2], [4, 6]), ([7], [7]), ([3, 8], [3, 8]), ([9, 7, 0, 1, 2, 3, 4, 5, 6, 7, 8, 9], [9])])
def band_next.B7 : List Nat := [0, 0, 3, 7, 0, 0, 32, 119, 247, 511, 1023]
theorem band_next.tab7 : rtab .any (opsOf Try.f22 7) = band_next.T7 := by kernel_rfl
theorem band_next.bits7 : waitsOk band_next.T7.2 band_next.B7 = true := by kernel_rfl
def band_next.T10 : Bool × List (List Nat × List Nat) := (true, [([], []), ([0], [0]), ([1], [1]), ([2], [2]), ([3, 2], [2, 3]), ([2, 4], [2, 4]), ([5, 2], [5]), ([6], [6]), ([6], [6]), ([8, 6], [6, 8]), ([7, 9, 6], [6, 7, 9]), ([10, 6], [6, 10]), ([6], [6]), ([6], [6]), ([13, 6], [6, 13]), ([12, 14, 6], [6, 12, 14]), ([15, 6], [6, 15]), ([11, 16, 6], [6, 11, 16]), ([6, 17], [6, 17]), ([18, 6], [18])])
def band_next.B10 : List Nat := [0, 1, 3, 7, 15, 31, 63, 127, 127, 383, 1023, 2047, 127, 127, 8319, 28799, 61567, 131071, 262143, 524287]
theorem band_next.tab10 : rtab .any (opsOf Try.f22 10) = band_next.T10 := by kernel_rfl
theorem band_next.bits10 : waitsOk band_next.T10.2 band_next.B10 = true := by kernel_rfl
set_option maxHeartbeats 8000000 in
set_option maxRecDepth 100000 in
theorem band_next.calls (k : Nat) (A0 : Option Addr) (c0 : Nat) (l0 : List Int) (A1 : Option Addr) (c1 : Nat) (l1 : List Int) (a2 : Int) (a3 : Int) (a4 : Int) (a5_0 : Int) (A5_1 : Option Addr) (c5_1 : Nat) (l5_1 : List Int) (r1 : Int) (r2 : List Int) (w : World) (hr0 : Kd.C (Kd.int .i64) w A0 l0.length l0) (hc0 : l0.length ≤ c0) (hr1 : Kd.C (Kd.int .i64) w A1 l1.length l1) (hc1 : l1.length ≤ c1) (hr5_1 : Kd.C (Kd.int .i64) w A5_1 l5_1.length l5_1) (hc5_1 : l5_1.length ≤ c5_1) (h : band_next.f k l0 l1 a2 a3 a4 a5_0 l5_1 = some (r1, r2)) :
  Calls Try.prog 22 #[.slice A0 l0.length c0, .slice A1 l1.length c1, .int .i64 a2, .int .i64 a3, .int .i64 a4, .agg #[.int .i64 a5_0, .slice A5_1 l5_1.length c5_1]] w fun e w' => ∃ v1_ : Value, e = .returned (.agg #[.int .i64 r1, v1_]) ∧ Kd.R (Kd.int .i64) 3 w' w.heap.size (fun _ => True) v1_ r2 ∧ Below w.heap.size w w' := by
 have hu43 := Try.underlying43
 have HR0 := Aside0.mk hr0
 have HC0 := Aside0.mk hc0
 clear hr0 hc0
 have HR1 := Aside0.mk hr1
 have HC1 := Aside0.mk hc1
 clear hr1 hc1
 have HR5_1 := Aside0.mk hr5_1
 have HC5_1 := Aside0.mk hc5_1
 clear hr5_1 hc5_1
 have HB := Aside0.mk (Below.refl w.heap.size w)
 have H : (band_next.l0 k l0 l1 a2 (mn (l1.length : Int) (wrap64 (a2 - a3))) (mx 0 (wrap64 (a2 - a4))) a5_0 l5_1 (mx 0 (wrap64 (a2 - a4))) ([] : List Int)) = some (r1, r2) := h
 clear h
 obtain ⟨ji7, hji7⟩ : ∃ j_ : Int, (mx 0 (wrap64 (a2 - a4))) = j_ := ⟨_, rfl⟩
 replace H : (band_next.l0 k l0 l1 a2 (mn (l1.length : Int) (wrap64 (a2 - a3))) ji7 a5_0 l5_1 ji7 ([] : List Int)) = some (r1, r2) := by first | (rw [hji7] at H; exact H) | (simp only [hji7] at H ⊢; exact H)
 (try (have hji7l : 0 ≤ ji7 := by (rw [← hji7]; unfold mx; (repeat' split) <;> omega)))
 (try (have hji7m : 0 ≤ ji7 := by omega))
 have hji7_ : (if 0 < (wrap64 (a2 - a4)) then (wrap64 (a2 - a4)) else 0) = ji7 := hji7
 obtain ⟨ji8, hji8⟩ : ∃ j_ : Int, (mn (l1.length : Int) (wrap64 (a2 - a3))) = j_ := ⟨_, rfl⟩
 replace H : (band_next.l0 k l0 l1 a2 ji8 ji7 a5_0 l5_1 ji7 ([] : List Int)) = some (r1, r2) := by first | (rw [hji8] at H; exact H) | (simp only [hji8] at H ⊢; exact H)
 have hji8_ : (if (wrap64 (a2 - a3)) < (l1.length : Int) then (wrap64 (a2 - a3)) else (l1.length : Int)) = ji8 := hji8
 have H' := Aside0.mk H
 clear H
 go_enter Try.func22, Try.ntmps22
 try dsimp only [List.append]
 go_wp2_with (first | ((with_reducible refine gate_dst (N := 11) rfl ?_); refine box_event ?hg (N := 11) ?hd (cs := #[.int .i64 a5_0, .slice A5_1 l5_1.length c5_1]) (t := 43) ?hr ?_; (case hd => rfl); (case hg => rfl); (case hr => first | (go_simp; done) | (go_simp; rfl)); intro gb108 hg w9 hbox hb; have n0_ := Aside0.mk (below_step (by repeat (first | (with_reducible first | exact HB.out | apply below_alloc | apply pw_below_drewN | apply below_drew1) | exact HB.out)) hb); have n1_ := Aside0.mk (hbox); have n2_ := Aside0.mk ((by rw [hg]; exact (below_size (by repeat (first | (with_reducible first | exact HB.out | apply below_alloc | apply pw_below_drewN | apply below_drew1) | exact HB.out))) : w.heap.size ≤ gb108)); have n3_ := Aside0.mk ((by rw [hg]; exact (below_size (by repeat (first | (with_reducible first | exact HB.out | apply below_alloc | apply pw_below_drewN | apply below_drew1) | exact HB.out))) : w.heap.size ≤ gb108)); clear HB; have HB := n0_; have BK108 := n1_; have GW108 := n2_; have GE108 := n3_; clear n0_ n1_ n2_ n3_; (try clear hb); (try clear hbox); (try clear hg)) | ((with_reducible refine gate_dst (N := 12) rfl ?_); refine box_event ?hg (N := 12) ?hd (cs := #[.int .i64 0, .slice none 0 0]) (t := 43) ?hr ?_; (case hd => rfl); (case hg => rfl); (case hr => first | (go_simp; done) | (go_simp; rfl)); intro gb109 hg w10 hbox hb; have n0_ := Aside0.mk (blk_below (g := gb108) (o := .cells #[.int .i64 a5_0, .slice A5_1 l5_1.length c5_1] 43 (0, 0)) (by (with_reducible repeat (first | refine blk_drewN ?_ _ | refine blk_drew ?_ | refine blk_alloc ?_ _)); exact BK108.out) hb); have n1_ := Aside0.mk (below_step (by repeat (first | (with_reducible first | exact HB.out | apply below_alloc | apply pw_below_drewN | apply below_drew1 | refine below_set ?_ GE108.out) | exact HB.out)) hb); have n2_ := Aside0.mk (hbox); have n3_ := Aside0.mk ((by rw [hg]; exact (below_size (by repeat (first | (with_reducible first | exact HB.out | apply below_alloc | apply pw_below_drewN | apply below_drew1 | refine below_set ?_ GE108.out) | exact HB.out))) : w.heap.size ≤ gb109)); have n4_ := Aside0.mk ((by rw [hg]; exact (below_size (by repeat (first | (with_reducible first | exact HB.out | apply below_alloc | apply pw_below_drewN | apply below_drew1 | refine below_set ?_ GE108.out) | exact HB.out))) : w.heap.size ≤ gb109)); have n5_ := Aside0.mk ((by rw [hg]; exact Nat.ne_of_lt (blk_lt (g := gb108) (o := .cells #[.int .i64 a5_0, .slice A5_1 l5_1.length c5_1] 43 (0, 0)) (by (with_reducible repeat (first | refine blk_drewN ?_ _ | refine blk_drew ?_ | refine blk_alloc ?_ _)); exact BK108.out)) : gb108 ≠ gb109)); have n6_ := Aside0.mk ((by rw [hg]; exact Nat.ne_of_gt (blk_lt (g := gb108) (o := .cells #[.int .i64 a5_0, .slice A5_1 l5_1.length c5_1] 43 (0, 0)) (by (with_reducible repeat (first | refine blk_drewN ?_ _ | refine blk_drew ?_ | refine blk_alloc ?_ _)); exact BK108.out)) : gb109 ≠ gb108)); clear BK108; clear HB; have BK108 := n0_; have HB := n1_; have BK109 := n2_; have GW109 := n3_; have GE109 := n4_; have NB108_109 := n5_; have NB109_108 := n6_; clear n0_ n1_ n2_ n3_ n4_ n5_ n6_; (try clear hb); (try clear hbox); (try clear hg)) | ((with_reducible refine gate_dst (N := 15) rfl ?_); refine box_event ?hg (N := 15) ?hd (cs := #[.int .i64 0, .slice none 0 0]) (t := 43) ?hr ?_; (case hd => rfl); (case hg => rfl); (case hr => first | (go_simp; done) | (go_simp; rfl)); intro gb110 hg w11 hbox hb; have n0_ := Aside0.mk (blk_below (g := gb108) (o := .cells #[.int .i64 a5_0, .slice A5_1 l5_1.length c5_1] 43 (0, 0)) (by (with_reducible repeat (first | refine blk_drewN ?_ _ | refine blk_drew ?_ | refine blk_alloc ?_ _)); exact BK108.out) hb); have n1_ := Aside0.mk (blk_below (g := gb109) (o := .cells #[.int .i64 0, .slice none 0 0] 43 (0, 0)) (by (with_reducible repeat (first | refine blk_drewN ?_ _ | refine blk_drew ?_ | refine blk_alloc ?_ _)); exact BK109.out) hb); have n2_ := Aside0.mk (below_step (by repeat (first | (with_reducible first | exact HB.out | apply below_alloc | apply pw_below_drewN | apply below_drew1 | refine below_set ?_ GE108.out | refine below_set ?_ GE109.out) | exact HB.out)) hb); have n3_ := Aside0.mk (hbox); have n4_ := Aside0.mk ((by rw [hg]; exact (below_size (by repeat (first | (with_reducible first | exact HB.out | apply below_alloc | apply pw_below_drewN | apply below_drew1 | refine below_set ?_ GE108.out | refine below_set ?_ GE109.out) | exact HB.out))) : w.heap.size ≤ gb110)); have n5_ := Aside0.mk ((by rw [hg]; exact (below_size (by repeat (first | (with_reducible first | exact HB.out | apply below_alloc | apply pw_below_drewN | apply below_drew1 | refine below_set ?_ GE108.out | refine below_set ?_ GE109.out) | exact HB.out))) : w.heap.size ≤ gb110)); have n6_ := Aside0.mk ((by rw [hg]; exact Nat.ne_of_lt (blk_lt (g := gb108) (o := .cells #[.int .i64 a5_0, .slice A5_1 l5_1.length c5_1] 43 (0, 0)) (by (with_reducible repeat (first | refine blk_drewN ?_ _ | refine blk_drew ?_ | refine blk_alloc ?_ _)); exact BK108.out)) : gb108 ≠ gb110)); have n7_ := Aside0.mk ((by rw [hg]; exact Nat.ne_of_gt (blk_lt (g := gb108) (o := .cells #[.int .i64 a5_0, .slice A5_1 l5_1.length c5_1] 43 (0, 0)) (by (with_reducible repeat (first | refine blk_drewN ?_ _ | refine blk_drew ?_ | refine blk_alloc ?_ _)); exact BK108.out)) : gb110 ≠ gb108)); have n8_ := Aside0.mk ((by rw [hg]; exact Nat.ne_of_lt (blk_lt (g := gb109) (o := .cells #[.int .i64 0, .slice none 0 0] 43 (0, 0)) (by (with_reducible repeat (first | refine blk_drewN ?_ _ | refine blk_drew ?_ | refine blk_alloc ?_ _)); exact BK109.out)) : gb109 ≠ gb110)); have n9_ := Aside0.mk ((by rw [hg]; exact Nat.ne_of_gt (blk_lt (g := gb109) (o := .cells #[.int .i64 0, .slice none 0 0] 43 (0, 0)) (by (with_reducible repeat (first | refine blk_drewN ?_ _ | refine blk_drew ?_ | refine blk_alloc ?_ _)); exact BK109.out)) : gb110 ≠ gb109)); clear BK108; clear BK109; clear HB; have BK108 := n0_; have BK109 := n1_; have HB := n2_; have BK110 := n3_; have GW110 := n4_; have GE110 := n5_; have NB108_110 := n6_; have NB110_108 := n7_; have NB109_110 := n8_; have NB110_109 := n9_; clear n0_ n1_ n2_ n3_ n4_ n5_ n6_ n7_ n8_ n9_; (try clear hb); (try clear hbox); (try clear hg); have hnb12 := NB110_108.out; have hnc12 := NB108_110.out; have hnb13 := NB110_109.out; have hnc13 := NB109_110.out; have hcz14_0 : w11.cell? ⟨gb110, 0, none⟩ = some (.int .i64 0) := (blk_cell BK110.out 0).trans rfl; have hcz14_1 : w11.cell? ⟨gb110, 1, none⟩ = some (.slice none 0 0) := (blk_cell BK110.out 1).trans rfl; have hfz14_0 := blk_frozen BK110.out 0; have hfz14_1 := blk_frozen BK110.out 1))
 go_loopg [16] k (fun kq v16 w' => ∃ (x16_1 : Int) (x111001_1 : List Int) (u111001 : Value), v16 = .int .i64 x16_1 ∧ Aside0 (band_next.l0 kq l0 l1 a2 ji8 x16_1 a5_0 l5_1 ji7 x111001_1 = some (r1, r2)) ∧ Aside0 (kq ≤ k) ∧ Aside0 (Kd.R (Kd.int .i64) 3 w' w.heap.size (fun _ => True) u111001 x111001_1) ∧ Aside0 (w'.heap[gb108]? = some (.cells #[.int .i64 a5_0, (.slice A5_1 l5_1.length c5_1)] 43 (0, 0))) ∧ Aside0 (w'.heap[gb109]? = some (.cells #[.int .i64 0, (.slice none 0 0)] 43 (0, 0))) ∧ Aside0 (w'.heap[gb110]? = some (.cells #[.int .i64 ji7, u111001] 43 (0, 0))) ∧ Aside0 (Below w.heap.size w w'))
 case atStart => exact ⟨(ji7), (([] : List Int)), (.slice none 0 0), (by first | rfl | (simp; done) | (simp only [← hji7] <;> (first | rfl | simp)) | (simp [*]; done)), H', ⟨Nat.le_refl _⟩, ⟨by first | exact Kd.R_nil _ _ _ _ _ | exact Kd.N_nil _ _ _ _ _ | exact Kd.V_nil _ _ _ _ _ | exact Kd.Q_nil _ _ _ _ _ | exact Kd.S_nil _ _ _ _ _⟩, ⟨by (with_reducible repeat (first | refine blk_drewN ?_ _ | refine blk_drew ?_ | refine blk_alloc ?_ _)); refine blk_far ?_ NB108_110.out _; (with_reducible repeat (first | refine blk_drewN ?_ _ | refine blk_drew ?_ | refine blk_alloc ?_ _)); refine blk_far ?_ NB108_110.out _; (with_reducible repeat (first | refine blk_drewN ?_ _ | refine blk_drew ?_ | refine blk_alloc ?_ _)); exact BK108.out⟩, ⟨by (with_reducible repeat (first | refine blk_drewN ?_ _ | refine blk_drew ?_ | refine blk_alloc ?_ _)); refine blk_far ?_ NB109_110.out _; (with_reducible repeat (first | refine blk_drewN ?_ _ | refine blk_drew ?_ | refine blk_alloc ?_ _)); refine blk_far ?_ NB109_110.out _; (with_reducible repeat (first | refine blk_drewN ?_ _ | refine blk_drew ?_ | refine blk_alloc ?_ _)); exact BK109.out⟩, ⟨by (with_reducible repeat (first | refine blk_drewN ?_ _ | refine blk_drew ?_ | refine blk_alloc ?_ _)); refine blk_put (cs := #[.int .i64 ji7, .slice none 0 0]) ?_ 1 _ rfl; (with_reducible repeat (first | refine blk_drewN ?_ _ | refine blk_drew ?_ | refine blk_alloc ?_ _)); refine blk_put (cs := #[.int .i64 0, .slice none 0 0]) ?_ 0 _ rfl; (with_reducible repeat (first | refine blk_drewN ?_ _ | refine blk_drew ?_ | refine blk_alloc ?_ _)); exact BK110.out⟩, ⟨by repeat (first | (with_reducible first | exact HB.out | apply below_alloc | apply pw_below_drewN | apply below_drew1 | refine below_set ?_ GE108.out | refine below_set ?_ GE109.out | refine below_set ?_ GE110.out) | exact HB.out)⟩⟩
 case round =>
  clear H'
  try clear c1
  try clear c2
  try clear p2
  try clear c5
  try clear p6
  try clear c12
  try clear c13
  try clear hcz14_0
  try clear hcz14_1
  try clear hfz14_0
  try clear hfz14_1
  obtain ⟨x16_1, x111001_1, u111001, rfl, HA, HK1, HO_111001, BK108, BK109, BK110, HB⟩ := hrel
  cases gk with
  | zero => exact absurd HA.out (by simp [band_next.l0])
  | succ k1 =>
   have H := HA.out
   clear HA
   simp only [band_next.l0] at H
   by_cases c15 : x16_1 ≤ ji8
   ·rw [if_pos c15] at H
    have c15b0 : decide (x16_1 ≤ ji8) = true := decide_eq_true c15
    clear c15
    have HC16 := Aside0.mk H
    clear H
    go_upto_region 8 with (fail)
    go_cut [46] (fun v46 wc => ∃ (kq : Nat) (x46_15 : Bool), v46 = .bool x46_15 ∧ Aside0 (band_next.j1 kq l0 l1 a2 ji8 x16_1 x46_15 a5_0 l5_1 ji7 x111001_1 = some (r1, r2)) ∧ Aside0 (kq ≤ k1) ∧ Aside0 (Kd.R (Kd.int .i64) 3 wc w.heap.size (fun _ => True) u111001 x111001_1) ∧ Aside0 (wc.heap[gb108]? = some (.cells #[.int .i64 a5_0, (.slice A5_1 l5_1.length c5_1)] 43 (0, 0))) ∧ Aside0 (wc.heap[gb109]? = some (.cells #[.int .i64 0, (.slice none 0 0)] 43 (0, 0))) ∧ Aside0 (wc.heap[gb110]? = some (.cells #[.int .i64 ji7, u111001] 43 (0, 0))) ∧ Aside0 (Below w.heap.size w wc))
    case first =>
     have H := HC16.out
     clear HC16
     by_cases c17 : a2 = 0
     ·rw [if_pos c17] at H
      have c17b0 : (a2 == 0) = true := beq_iff_eq.mpr c17
      have c17b1 : (a2 != 0) = false := bne_eq_false_iff_eq.mpr c17
      clear c17
      (first | rw [c17b0] | (simp only [i64_w, i32_w]; rw [c17b0]) | skip)
      have H' := Aside0.mk H
      clear H
      go_wp2
      go_meet
      case rel => exact ⟨_, ((x16_1 == 0)), (by first | rfl | (simp; done) | (simp [*]; done)), H', ⟨by have := HK1.out; first | omega | exact Nat.le_refl _⟩, ⟨by (with_reducible repeat (first | apply Kd.R_alloc | apply Kd.R_drewN | apply Kd.R_drew)); exact HO_111001.out⟩, ⟨by (with_reducible repeat (first | refine blk_drewN ?_ _ | refine blk_drew ?_ | refine blk_alloc ?_ _)); exact BK108.out⟩, ⟨by (with_reducible repeat (first | refine blk_drewN ?_ _ | refine blk_drew ?_ | refine blk_alloc ?_ _)); exact BK109.out⟩, ⟨by (with_reducible repeat (first | refine blk_drewN ?_ _ | refine blk_drew ?_ | refine blk_alloc ?_ _)); exact BK110.out⟩, ⟨by repeat (first | (with_reducible first | exact HB.out | apply below_alloc | apply pw_below_drewN | apply below_drew1 | refine below_set ?_ GE108.out | refine below_set ?_ GE109.out | refine below_set ?_ GE110.out) | exact HB.out)⟩⟩
     ·rw [if_neg c17] at H
      have c17b0 : (a2 == 0) = false := beq_eq_false_iff_ne.mpr c17
      have c17b1 : (a2 != 0) = true := bne_iff_ne.mpr c17
      (first | rw [c17b0] | (simp only [i64_w, i32_w]; rw [c17b0]) | skip)
      have H' := Aside0.mk H
      clear H
      go_wp2
      go_meet
      case rel => exact ⟨_, (false), (by first | rfl | (simp; done) | (simp [*]; done)), H', ⟨by have := HK1.out; first | omega | exact Nat.le_refl _⟩, ⟨by (with_reducible repeat (first | apply Kd.R_alloc | apply Kd.R_drewN | apply Kd.R_drew)); exact HO_111001.out⟩, ⟨by (with_reducible repeat (first | refine blk_drewN ?_ _ | refine blk_drew ?_ | refine blk_alloc ?_ _)); exact BK108.out⟩, ⟨by (with_reducible repeat (first | refine blk_drewN ?_ _ | refine blk_drew ?_ | refine blk_alloc ?_ _)); exact BK109.out⟩, ⟨by (with_reducible repeat (first | refine blk_drewN ?_ _ | refine blk_drew ?_ | refine blk_alloc ?_ _)); exact BK110.out⟩, ⟨by repeat (first | (with_reducible first | exact HB.out | apply below_alloc | apply pw_below_drewN | apply below_drew1 | refine below_set ?_ GE108.out | refine below_set ?_ GE109.out | refine below_set ?_ GE110.out) | exact HB.out)⟩⟩
    case rest =>
     clear HC16
     try clear c1
     try clear c2
     try clear p2
     try clear c5
     try clear p6
     try clear c12
     try clear c13
     try clear c15
     try clear c15b0
     try clear c17
     try clear c17b0
     try clear c17b1
     try clear hcz14_0
     try clear hcz14_1
     try clear hfz14_0
     try clear hfz14_1
     try clear p2
     try clear p6
     obtain ⟨kq, x46_15, rfl, HA, HJ15, HO_111001, BK108, BK109, BK110, HB⟩ := hcut
     cases kq with
     | zero => exact absurd HA.out (by simp [band_next.j1])
     | succ kj15 =>
      have H := HA.out
      clear HA
      simp only [band_next.j1] at H
      by_cases c18 : x46_15 = true
      ·subst c18
       have H1 : (if x111001_1.length < 17592186044416 then (band_next.l0 kj15 l0 l1 a2 ji8 (wrap64 (x16_1 + 1)) a5_0 l5_1 ji7 (x111001_1 ++ [0])) else (none)) = some (r1, r2) := by rw [if_pos rfl] at H; exact H
       clear H
       have H := H1
       clear H1
       by_cases c19 : x111001_1.length < 17592186044416
       ·rw [if_pos c19] at H
        have LMc19 := Aside0.mk c19
        clear c19
        obtain ⟨y111, hy111⟩ : ∃ y_ : List Int, y_ = (x111001_1 ++ [0]) := ⟨_, rfl⟩
        replace H : (band_next.l0 kj15 l0 l1 a2 ji8 (wrap64 (x16_1 + 1)) a5_0 l5_1 ji7 y111) = some (r1, r2) := by first | (rw [hy111]; with_reducible exact H) | (have H2_ := (Option.bind_some _ _).symm.trans H; rw [hy111]; with_reducible exact H2_) | (have H2_ := (Option.bind_some _ _).symm.trans H; with_reducible exact H2_) | with_reducible exact H | (rw [hy111]; exact H) | exact H
        have Ny111 := Aside0.mk hy111
        clear hy111
        have H' := Aside0.mk H
        clear H
        have hnb20 := NB110_108.out
        have hnc20 := NB108_110.out
        have hnb21 := NB110_109.out
        have hnc21 := NB109_110.out
        have hcz22_0 : wc.cell? ⟨gb110, 0, none⟩ = some (.int .i64 ji7) := (blk_cell BK110.out 0).trans rfl
        have hcz22_1 : wc.cell? ⟨gb110, 1, none⟩ = some (u111001) := (blk_cell BK110.out 1).trans rfl
        have hfz22_0 := blk_frozen BK110.out 0
        have hfz22_1 := blk_frozen BK110.out 1
        go_wp2_with (first | ((with_reducible refine gate_builtin (b := .append) (xs := #[.tmp 78, .tmp 80]) rfl ?_); at_builtin; refine Kd.R_append (Kd.int .i64) (w0 := w) w.heap.size rfl (.tmp 78) (.tmp 80) 25 3 (.int .i64 0) 8 rfl Try.underlying25 info3 rfl (by decide) (by omega) u111001 x111001_1 0 [.int .i64 0] (fun _ => True) (fun _ => False) rfl rfl ?aP (fun _ hk => hk.elim) ?aF ?aO ?aB ?aS ?aL ?_; (case aP => exact rfl); (case aB => exact (by repeat (first | (with_reducible first | exact HB.out | apply below_alloc | apply pw_below_drewN | apply below_drew1 | refine below_set ?_ GE108.out | refine below_set ?_ GE109.out | refine below_set ?_ GE110.out) | exact HB.out))); (case aF => exact (fun _ _ => trivial)); (case aO => exact (by (with_reducible repeat (first | apply Kd.R_alloc | apply Kd.R_drewN | apply Kd.R_drew)); exact HO_111001.out)); (case aS => exact (below_size (by repeat (first | (with_reducible first | exact HB.out | apply below_alloc | apply pw_below_drewN | apply below_drew1 | refine below_set ?_ GE108.out | refine below_set ?_ GE109.out | refine below_set ?_ GE110.out) | exact HB.out)))); (case aL => have := LMc19.out; omega); intro v112 w23 ho hb hg hat; rw [← Ny111.out] at ho; have n0_ := Aside0.mk (blk_grown (g := gb108) (o := .cells #[.int .i64 a5_0, .slice A5_1 l5_1.length c5_1] 43 (0, 0)) (by (with_reducible repeat (first | refine blk_drewN ?_ _ | refine blk_drew ?_ | refine blk_alloc ?_ _)); exact BK108.out) hg (Kd.R_ne HO_111001.out BK108.out (by decide))); have n1_ := Aside0.mk (blk_grown (g := gb109) (o := .cells #[.int .i64 0, .slice none 0 0] 43 (0, 0)) (by (with_reducible repeat (first | refine blk_drewN ?_ _ | refine blk_drew ?_ | refine blk_alloc ?_ _)); exact BK109.out) hg (Kd.R_ne HO_111001.out BK109.out (by decide))); have n2_ := Aside0.mk (blk_grown (g := gb110) (o := .cells #[.int .i64 ji7, u111001] 43 (0, 0)) (by (with_reducible repeat (first | refine blk_drewN ?_ _ | refine blk_drew ?_ | refine blk_alloc ?_ _)); exact BK110.out) hg (Kd.R_ne HO_111001.out BK110.out (by decide))); have n3_ := Aside0.mk (hb); have n4_ := Aside0.mk (ho); clear BK108; clear BK109; clear BK110; clear HB; clear HO_111001; have BK108 := n0_; have BK109 := n1_; have BK110 := n2_; have HB := n3_; have HO113 := n4_; clear n0_ n1_ n2_ n3_ n4_; (try clear ho); (try clear hb); (try clear hg); (try clear hat); obtain ⟨Ao24, co24, eo24⟩ := Kd.R_slice HO113.out; subst eo24; have hcz25_0 : w23.cell? ⟨gb110, 0, none⟩ = some (.int .i64 ji7) := (blk_cell BK110.out 0).trans rfl; have hcz25_1 : w23.cell? ⟨gb110, 1, none⟩ = some (u111001) := (blk_cell BK110.out 1).trans rfl; have hfz25_0 := blk_frozen BK110.out 0; have hfz25_1 := blk_frozen BK110.out 1))
        go_roundg kj15
        case measure => have := HK1.out; have := HJ15.out; omega
        case rel => exact ⟨(wrap64 (x16_1 + 1)), (y111), (.slice Ao24 y111.length co24), (by first | rfl | (simp; done) | (simp [*]; done)), H', ⟨by have := HK1.out; have := HJ15.out; omega⟩, ⟨by (with_reducible repeat (first | apply Kd.R_alloc | apply Kd.R_drewN | apply Kd.R_drew)); exact Kd.R_mono (Kd.R_far (p := ⟨gb110, 1, none⟩) (Kd.R_types HO113.out BK110.out (by decide)) (fun _ hk => hk.2) (.slice Ao24 y111.length co24)) (fun _ hk => trivial)⟩, ⟨by (with_reducible repeat (first | refine blk_drewN ?_ _ | refine blk_drew ?_ | refine blk_alloc ?_ _)); refine blk_far ?_ NB108_110.out _; (with_reducible repeat (first | refine blk_drewN ?_ _ | refine blk_drew ?_ | refine blk_alloc ?_ _)); exact BK108.out⟩, ⟨by (with_reducible repeat (first | refine blk_drewN ?_ _ | refine blk_drew ?_ | refine blk_alloc ?_ _)); refine blk_far ?_ NB109_110.out _; (with_reducible repeat (first | refine blk_drewN ?_ _ | refine blk_drew ?_ | refine blk_alloc ?_ _)); exact BK109.out⟩, ⟨by (with_reducible repeat (first | refine blk_drewN ?_ _ | refine blk_drew ?_ | refine blk_alloc ?_ _)); refine blk_put (cs := #[.int .i64 ji7, u111001]) ?_ 1 _ rfl; (with_reducible repeat (first | refine blk_drewN ?_ _ | refine blk_drew ?_ | refine blk_alloc ?_ _)); exact BK110.out⟩, ⟨by repeat (first | (with_reducible first | exact HB.out | apply below_alloc | apply pw_below_drewN | apply below_drew1 | refine below_set ?_ GE108.out | refine below_set ?_ GE109.out | refine below_set ?_ GE110.out) | exact HB.out)⟩⟩
       ·rw [if_neg c19] at H
        exact absurd H (by simp)
      ·replace c18 := Bool.eq_false_iff.mpr c18
       subst c18
       have H1 : (if a2 > 0 then (if x16_1 > 0 then (if 0 ≤ (wrap64 (a2 - 1)) then (if (wrap64 (a2 - 1)) < (l0.length : Int) then (if 0 ≤ (wrap64 (x16_1 - 1)) then (if (wrap64 (x16_1 - 1)) < (l1.length : Int) then (band_next.j2 kj15 l0 l1 a2 ji8 x16_1 ((rd l0 (wrap64 (a2 - 1))) == (rd l1 (wrap64 (x16_1 - 1)))) a5_0 l5_1 ji7 x111001_1) else (none)) else (none)) else (none)) else (none)) else (band_next.j2 kj15 l0 l1 a2 ji8 x16_1 false a5_0 l5_1 ji7 x111001_1)) else (band_next.j2 kj15 l0 l1 a2 ji8 x16_1 false a5_0 l5_1 ji7 x111001_1)) = some (r1, r2) := by rw [if_neg (show ¬ (false = true) by decide)] at H; exact H
       clear H
       have H := H1
       clear H1
       have HC26 := Aside0.mk H
       clear H
       go_upto_region 10 with (fail)
       go_cut [53] (fun v53 wc => ∃ (kq : Nat) (x53_25 : Bool), v53 = .bool x53_25 ∧ Aside0 (band_next.j2 kq l0 l1 a2 ji8 x16_1 x53_25 a5_0 l5_1 ji7 x111001_1 = some (r1, r2)) ∧ Aside0 (kq ≤ kj15) ∧ Aside0 (Kd.R (Kd.int .i64) 3 wc w.heap.size (fun _ => True) u111001 x111001_1) ∧ Aside0 (wc.heap[gb108]? = some (.cells #[.int .i64 a5_0, (.slice A5_1 l5_1.length c5_1)] 43 (0, 0))) ∧ Aside0 (wc.heap[gb109]? = some (.cells #[.int .i64 0, (.slice none 0 0)] 43 (0, 0))) ∧ Aside0 (wc.heap[gb110]? = some (.cells #[.int .i64 ji7, u111001] 43 (0, 0))) ∧ Aside0 (Below w.heap.size w wc))
       case first =>
        have H := HC26.out
        clear HC26
        by_cases c27 : a2 > 0
        ·rw [if_pos c27] at H
         have c27b0 : decide (0 < a2) = true := decide_eq_true c27
         clear c27
         (first | rw [c27b0] | (simp only [i64_w, i32_w]; rw [c27b0]) | skip)
         by_cases c28 : x16_1 > 0
         ·rw [if_pos c28] at H
          have c28b0 : decide (0 < x16_1) = true := decide_eq_true c28
          clear c28
          obtain ⟨ji29, hji29⟩ : ∃ j_ : Int, (wrap64 (a2 - 1)) = j_ := ⟨_, rfl⟩
          replace H : (if 0 ≤ (ji29) then (if (ji29) < (l0.length : Int) then (if 0 ≤ (wrap64 (x16_1 - 1)) then (if (wrap64 (x16_1 - 1)) < (l1.length : Int) then (band_next.j2 kj15 l0 l1 a2 ji8 x16_1 ((rd l0 (ji29)) == (rd l1 (wrap64 (x16_1 - 1)))) a5_0 l5_1 ji7 x111001_1) else (none)) else (none)) else (none)) else (none)) = some (r1, r2) := by first | (rw [hji29] at H; exact H) | (simp only [hji29] at H ⊢; exact H)
          have hji29w : (IntKind.i64.wrap (a2 - 1)) = ji29 := (i64_w _).trans hji29
          by_cases c30 : 0 ≤ (ji29)
          ·rw [if_pos c30] at H
           have c30b0 : decide (0 ≤ (ji29)) = true := decide_eq_true c30
           clear c30
           by_cases c31 : (ji29) < (l0.length : Int)
           ·rw [if_pos c31] at H
            have c31b0 : decide ((ji29) < (l0.length : Int)) = true := decide_eq_true c31
            clear c31
            obtain ⟨ji32, hji32⟩ : ∃ j_ : Int, (wrap64 (x16_1 - 1)) = j_ := ⟨_, rfl⟩
            replace H : (if 0 ≤ (ji32) then (if (ji32) < (l1.length : Int) then (band_next.j2 kj15 l0 l1 a2 ji8 x16_1 ((rd l0 (ji29)) == (rd l1 (ji32))) a5_0 l5_1 ji7 x111001_1) else (none)) else (none)) = some (r1, r2) := by first | (rw [hji32] at H; exact H) | (simp only [hji32] at H ⊢; exact H)
            have hji32w : (IntKind.i64.wrap (x16_1 - 1)) = ji32 := (i64_w _).trans hji32
            by_cases c33 : 0 ≤ (ji32)
            ·rw [if_pos c33] at H
             have c33b0 : decide (0 ≤ (ji32)) = true := decide_eq_true c33
             clear c33
             by_cases c34 : (ji32) < (l1.length : Int)
             ·rw [if_pos c34] at H
              have c34b0 : decide ((ji32) < (l1.length : Int)) = true := decide_eq_true c34
              clear c34
              have H' := Aside0.mk H
              clear H
              try go_wp2
              have n0_ := Aside0.mk (Kd.R_drew HO_111001.out)
              have n1_ := Aside0.mk (blk_drew BK108.out)
              have n2_ := Aside0.mk (blk_drew BK109.out)
              have n3_ := Aside0.mk (blk_drew BK110.out)
              have n4_ := Aside0.mk (below_drew1 HB.out)
              clear HO_111001
              clear BK108
              clear BK109
              clear BK110
              clear HB
              have HO_111001 := n0_
              have BK108 := n1_
              have BK109 := n2_
              have BK110 := n3_
              have HB := n4_
              clear n0_ n1_ n2_ n3_ n4_
              have p114 : 0 ≤ ((ji29) : Int) := of_decide_eq_true (by first | (with_reducible assumption) | assumption)
              have q114 : (ji29) < (l0.length : Int) := of_decide_eq_true (by first | (with_reducible assumption) | assumption)
              obtain ⟨ad114, e114, hx114_0⟩ := Kd.at_int HR0.out (ji29) p114 q114
              have hw114_0 := hx114_0
              cases e114
              replace hx114_0 := (HB.out.cell (World.block_lt_of_cell? w _ hx114_0)).trans hx114_0
              replace p114 := eq_true p114
              replace q114 := eq_true q114
              have p115 : 0 ≤ ((ji32) : Int) := of_decide_eq_true (by first | (with_reducible assumption) | assumption)
              have q115 : (ji32) < (l1.length : Int) := of_decide_eq_true (by first | (with_reducible assumption) | assumption)
              obtain ⟨ad115, e115, hx115_0⟩ := Kd.at_int HR1.out (ji32) p115 q115
              have hw115_0 := hx115_0
              cases e115
              replace hx115_0 := (HB.out.cell (World.block_lt_of_cell? w _ hx115_0)).trans hx115_0
              replace p115 := eq_true p115
              replace q115 := eq_true q115
              refine start_ (n := 20) (S := fun w' => w'.cell? (ad114.add ((ji29)).toNat) = some (.int .i64 (rd l0 (ji29))) ∧ w'.cell? (ad115.add ((ji32)).toNat) = some (.int .i64 (rd l1 (ji32)))) (ds := []) #[N,N,N,N,N,N,N,N,N,N,N,N,N,N,N,N,N,N,N,N] (by kernel_rfl) rfl rfl ⟨((HB.out.cell (World.block_lt_of_cell? w _ hw114_0)).trans hw114_0), ((HB.out.cell (World.block_lt_of_cell? w _ hw115_0)).trans hw115_0)⟩ (fun hHeld => ?_); refine with_tabW band_next.tab10 band_next.bits10 (fun HT_ HW_ => ?_)
              generalize wc.drew = w35 at HO_111001 BK108 BK109 BK110 HB hx114_0 hx115_0 hHeld ⊢
              refine pure_ (i := 0) (N := some 54) (v := ?_) (a' := ?_) #[Y,N,N,N,N,N,N,N,N,N,N,N,N,N,N,N,N,N,N,N] rfl rfl (any_of HT_.out (by kernel_rfl)) (fun _ _ _ h => h) (Or.inl ⟨by rfl, ?_⟩) ?_ ?_; rotate_left
              ·intro w'; go_simp; with_reducible rfl
              rotate_left
              ·simp only [Act.put, sA,sB,sC, i64_w, i32_w]; rfl
              refine pure_ (i := 1) (N := some 55) (v := ?_) (a' := ?_) #[Y,Y,N,N,N,N,N,N,N,N,N,N,N,N,N,N,N,N,N,N] rfl rfl (any_of HT_.out (by kernel_rfl)) (fun _ _ _ h => h) (Or.inl ⟨by rfl, ?_⟩) ?_ ?_; rotate_left
              ·intro w'; go_simp; with_reducible rfl
              rotate_left
              ·simp only [Act.put, sA,sB,sC, i64_w, i32_w]; rfl
              refine pure_ (i := 2) (N := some 56) (v := ?_) (a' := ?_) #[Y,Y,Y,N,N,N,N,N,N,N,N,N,N,N,N,N,N,N,N,N] rfl rfl (any_of HT_.out (by kernel_rfl)) (fun _ _ _ h => h) (Or.inl ⟨by rfl, ?_⟩) ?_ ?_; rotate_left
              ·intro w'; go_simp; with_reducible rfl
              rotate_left
              ·simp only [Act.put, sA,sB,sC, i64_w, i32_w]; rfl
              refine pure_ (i := 3) (N := some 57) (v := ?_) (a' := ?_) #[Y,Y,Y,Y,N,N,N,N,N,N,N,N,N,N,N,N,N,N,N,N] rfl rfl (any_of HT_.out (by kernel_rfl)) (fun _ _ _ h => h) (Or.inl ⟨by rfl, ?_⟩) ?_ ?_; rotate_left
              ·intro w'; go_simp; with_reducible rfl
              rotate_left
              ·simp only [Act.put, sA,sB,sC, i64_w, i32_w]; rfl
              refine pure_ (i := 4) (N := some 58) (v := ?_) (a' := ?_) #[Y,Y,Y,Y,Y,N,N,N,N,N,N,N,N,N,N,N,N,N,N,N] rfl rfl (any_of HT_.out (by kernel_rfl)) (fun _ _ _ h => h) (Or.inl ⟨by rfl, ?_⟩) ?_ ?_; rotate_left
              ·intro w'; go_simp; with_reducible rfl
              rotate_left
              ·simp only [Act.put, sA,sB,sC, i64_w, i32_w]; rfl
              refine pure_ (i := 5) (N := some 59) (v := ?_) (a' := ?_) #[Y,Y,Y,Y,Y,Y,N,N,N,N,N,N,N,N,N,N,N,N,N,N] rfl rfl (any_of HT_.out (by kernel_rfl)) (fun _ _ _ h => h) (Or.inl ⟨by rfl, ?_⟩) ?_ ?_; rotate_left
              ·intro w'; go_simp; with_reducible rfl
              rotate_left
              ·simp only [Act.put, sA,sB,sC, i64_w, i32_w]; rfl
              refine pure_ (i := 6) (N := some 60) (v := ?_) (a' := ?_) #[Y,Y,Y,Y,Y,Y,Y,N,N,N,N,N,N,N,N,N,N,N,N,N] rfl rfl (any_of HT_.out (by kernel_rfl)) (fun _ _ _ h => h) (Or.inl ⟨by rfl, ?_⟩) ?_ ?_; rotate_left
              ·intro w'; go_simp; with_reducible rfl
              rotate_left
              ·simp only [Act.put, sA,sB,sC, i64_w, i32_w]; rfl
              refine pure_ (i := 7) (N := some 61) (v := ?_) (a' := ?_) #[Y,Y,Y,Y,Y,Y,Y,Y,N,N,N,N,N,N,N,N,N,N,N,N] rfl rfl (any_of HT_.out (by kernel_rfl)) (fun _ _ _ h => h) (Or.inl ⟨by rfl, ?_⟩) ?_ ?_; rotate_left
              ·intro w'; go_simp; with_reducible rfl
              rotate_left
              ·simp only [Act.put, sA,sB,sC, i64_w, i32_w]; rfl
              refine pure_ (i := 8) (N := some 62) (v := ?_) (a' := ?_) #[Y,Y,Y,Y,Y,Y,Y,Y,Y,N,N,N,N,N,N,N,N,N,N,N] rfl rfl (any_of HT_.out (by kernel_rfl)) (fun _ _ _ h => h) (Or.inl ⟨by rfl, ?_⟩) ?_ ?_; rotate_left
              ·intro w'; go_simp; with_reducible rfl
              rotate_left
              ·simp only [Act.put, sA,sB,sC, i64_w, i32_w]; rfl
              refine pure_ (i := 9) (N := some 63) (v := ?_) (a' := ?_) #[Y,Y,Y,Y,Y,Y,Y,Y,Y,Y,N,N,N,N,N,N,N,N,N,N] rfl rfl (any_of HT_.out (by kernel_rfl)) (fun _ _ _ h => h) (Or.inl ⟨by rfl, ?_⟩) ?_ ?_; rotate_left
              ·intro w'; go_simp; with_reducible rfl
              rotate_left
              ·simp only [Act.put, sA,sB,sC, i64_w, i32_w]; rfl
              refine pure_ (i := 10) (N := some 64) (v := ?_) (a' := ?_) #[Y,Y,Y,Y,Y,Y,Y,Y,Y,Y,Y,N,N,N,N,N,N,N,N,N] rfl rfl (any_of HT_.out (by kernel_rfl)) (fun _ _ _ h => h) (Or.inl ⟨by rfl, ?_⟩) ?_ ?_; rotate_left
              ·intro w'; go_simp; with_reducible rfl
              rotate_left
              ·simp only [Act.put, sA,sB,sC, i64_w, i32_w]; rfl
              refine pure_ (i := 12) (N := some 66) (v := ?_) (a' := ?_) #[Y,Y,Y,Y,Y,Y,Y,Y,Y,Y,Y,N,Y,N,N,N,N,N,N,N] rfl rfl (any_of HT_.out (by kernel_rfl)) (fun _ _ _ h => h) (Or.inl ⟨by rfl, ?_⟩) ?_ ?_; rotate_left
              ·intro w'; go_simp; with_reducible rfl
              rotate_left
              ·simp only [Act.put, sA,sB,sC, i64_w, i32_w]; rfl
              refine pure_ (i := 13) (N := some 67) (v := ?_) (a' := ?_) #[Y,Y,Y,Y,Y,Y,Y,Y,Y,Y,Y,N,Y,Y,N,N,N,N,N,N] rfl rfl (any_of HT_.out (by kernel_rfl)) (fun _ _ _ h => h) (Or.inl ⟨by rfl, ?_⟩) ?_ ?_; rotate_left
              ·intro w'; go_simp; with_reducible rfl
              rotate_left
              ·simp only [Act.put, sA,sB,sC, i64_w, i32_w]; rfl
              refine pure_ (i := 14) (N := some 68) (v := ?_) (a' := ?_) #[Y,Y,Y,Y,Y,Y,Y,Y,Y,Y,Y,N,Y,Y,Y,N,N,N,N,N] rfl rfl (any_of HT_.out (by kernel_rfl)) (fun _ _ _ h => h) (Or.inl ⟨by rfl, ?_⟩) ?_ ?_; rotate_left
              ·intro w'; go_simp; with_reducible rfl
              rotate_left
              ·simp only [Act.put, sA,sB,sC, i64_w, i32_w]; rfl
              refine pure_ (i := 15) (N := some 69) (v := ?_) (a' := ?_) #[Y,Y,Y,Y,Y,Y,Y,Y,Y,Y,Y,N,Y,Y,Y,Y,N,N,N,N] rfl rfl (any_of HT_.out (by kernel_rfl)) (fun _ _ _ h => h) (Or.inl ⟨by rfl, ?_⟩) ?_ ?_; rotate_left
              ·intro w'; go_simp; with_reducible rfl
              rotate_left
              ·simp only [Act.put, sA,sB,sC, i64_w, i32_w]; rfl
              refine take_ (i := 11) (N := some 65) (v := ?_) (a' := ?_) #[Y,Y,Y,Y,Y,Y,Y,Y,Y,Y,Y,Y,Y,Y,Y,Y,N,N,N,N] rfl rfl (take_ofW HT_.out HW_.out (by kernel_rfl)) (fun _ _ _ h => h) (Or.inl ⟨by rfl, ?_⟩) hHeld ?_ ?_; rotate_left
              ·rintro w' ⟨s0, s1⟩; go_simp; with_reducible rfl
              rotate_left
              ·simp only [Act.put, sA,sB,sC, i64_w, i32_w]; rfl
              refine take_ (i := 16) (N := some 70) (v := ?_) (a' := ?_) #[Y,Y,Y,Y,Y,Y,Y,Y,Y,Y,Y,Y,Y,Y,Y,Y,Y,N,N,N] rfl rfl (take_ofW HT_.out HW_.out (by kernel_rfl)) (fun _ _ _ h => h) (Or.inl ⟨by rfl, ?_⟩) hHeld ?_ ?_; rotate_left
              ·rintro w' ⟨s0, s1⟩; go_simp; with_reducible rfl
              rotate_left
              ·simp only [Act.put, sA,sB,sC, i64_w, i32_w]; rfl
              refine pure_ (i := 17) (N := some 71) (v := ?_) (a' := ?_) #[Y,Y,Y,Y,Y,Y,Y,Y,Y,Y,Y,Y,Y,Y,Y,Y,Y,Y,N,N] rfl rfl (any_of HT_.out (by kernel_rfl)) (fun _ _ _ h => h) (Or.inl ⟨by rfl, ?_⟩) ?_ ?_; rotate_left
              ·intro w'; go_simp; with_reducible rfl
              rotate_left
              ·simp only [Act.put, sA,sB,sC, i64_w, i32_w]; rfl
              refine pure_ (i := 18) (N := some 72) (v := ?_) (a' := ?_) #[Y,Y,Y,Y,Y,Y,Y,Y,Y,Y,Y,Y,Y,Y,Y,Y,Y,Y,Y,N] rfl rfl (any_of HT_.out (by kernel_rfl)) (fun _ _ _ h => h) (Or.inl ⟨by rfl, ?_⟩) ?_ ?_; rotate_left
              ·intro w'; go_simp; with_reducible rfl
              rotate_left
              ·simp only [Act.put, sA,sB,sC, i64_w, i32_w]; rfl
              refine pure_ (i := 19) (N := some 53) (v := ?_) (a' := ?_) #[Y,Y,Y,Y,Y,Y,Y,Y,Y,Y,Y,Y,Y,Y,Y,Y,Y,Y,Y,Y] rfl rfl (any_of HT_.out (by kernel_rfl)) (fun _ _ _ h => h) (Or.inl ⟨by rfl, ?_⟩) ?_ ?_; rotate_left
              ·intro w'; go_simp; with_reducible rfl
              rotate_left
              ·simp only [Act.put, sA,sB,sC, i64_w, i32_w]; rfl
              refine done_ (done_of HT_.out (by kernel_rfl)) ?_
              try go_wp2
              go_meet
              case rel => exact ⟨_, (((rd l0 (ji29)) == (rd l1 (ji32)))), (by first | rfl | (simp; done) | (simp only [← hji29, ← hji32] <;> (first | rfl | simp)) | (simp [*]; done)), H', ⟨by have := HK1.out; have := HJ15.out; first | omega | exact Nat.le_refl _⟩, ⟨by (with_reducible repeat (first | apply Kd.R_alloc | apply Kd.R_drewN | apply Kd.R_drew)); exact HO_111001.out⟩, ⟨by (with_reducible repeat (first | refine blk_drewN ?_ _ | refine blk_drew ?_ | refine blk_alloc ?_ _)); exact BK108.out⟩, ⟨by (with_reducible repeat (first | refine blk_drewN ?_ _ | refine blk_drew ?_ | refine blk_alloc ?_ _)); exact BK109.out⟩, ⟨by (with_reducible repeat (first | refine blk_drewN ?_ _ | refine blk_drew ?_ | refine blk_alloc ?_ _)); exact BK110.out⟩, ⟨by repeat (first | (with_reducible first | exact HB.out | apply below_alloc | apply pw_below_drewN | apply below_drew1 | refine below_set ?_ GE108.out | refine below_set ?_ GE109.out | refine below_set ?_ GE110.out) | exact HB.out)⟩⟩
             ·rw [if_neg c34] at H
              exact absurd H (by simp)
            ·rw [if_neg c33] at H
             exact absurd H (by simp)
           ·rw [if_neg c31] at H
            exact absurd H (by simp)
          ·rw [if_neg c30] at H
           exact absurd H (by simp)
         ·rw [if_neg c28] at H
          have c28b0 : decide (0 < x16_1) = false := decide_eq_false c28
          clear c28
          have H' := Aside0.mk H
          clear H
          try go_wp2
          have n0_ := Aside0.mk (Kd.R_drew HO_111001.out)
          have n1_ := Aside0.mk (blk_drew BK108.out)
          have n2_ := Aside0.mk (blk_drew BK109.out)
          have n3_ := Aside0.mk (blk_drew BK110.out)
          have n4_ := Aside0.mk (below_drew1 HB.out)
          clear HO_111001
          clear BK108
          clear BK109
          clear BK110
          clear HB
          have HO_111001 := n0_
          have BK108 := n1_
          have BK109 := n2_
          have BK110 := n3_
          have HB := n4_
          clear n0_ n1_ n2_ n3_ n4_
          refine start_ (n := 20) (S := fun w' => True) (ds := []) #[N,N,N,N,N,N,N,N,N,N,N,N,N,N,N,N,N,N,N,N] (by kernel_rfl) rfl rfl trivial (fun hHeld => ?_); refine with_tabW band_next.tab10 band_next.bits10 (fun HT_ HW_ => ?_)
          generalize wc.drew = w36 at HO_111001 BK108 BK109 BK110 HB hHeld ⊢
          refine pure_ (i := 0) (N := some 54) (v := ?_) (a' := ?_) #[Y,N,N,N,N,N,N,N,N,N,N,N,N,N,N,N,N,N,N,N] rfl rfl (any_of HT_.out (by kernel_rfl)) (fun _ _ _ h => h) (Or.inl ⟨by rfl, ?_⟩) ?_ ?_; rotate_left
          ·intro w'; go_simp; with_reducible rfl
          rotate_left
          ·simp only [Act.put, sA,sB,sC, i64_w, i32_w]; rfl
          refine pure_ (i := 1) (N := some 55) (v := ?_) (a' := ?_) #[Y,Y,N,N,N,N,N,N,N,N,N,N,N,N,N,N,N,N,N,N] rfl rfl (any_of HT_.out (by kernel_rfl)) (fun _ _ _ h => h) (Or.inl ⟨by rfl, ?_⟩) ?_ ?_; rotate_left
          ·intro w'; go_simp; with_reducible rfl
          rotate_left
          ·simp only [Act.put, sA,sB,sC, i64_w, i32_w]; rfl
          refine pure_ (i := 2) (N := some 56) (v := ?_) (a' := ?_) #[Y,Y,Y,N,N,N,N,N,N,N,N,N,N,N,N,N,N,N,N,N] rfl rfl (any_of HT_.out (by kernel_rfl)) (fun _ _ _ h => h) (Or.inl ⟨by rfl, ?_⟩) ?_ ?_; rotate_left
          ·intro w'; go_simp; with_reducible rfl
          rotate_left
          ·simp only [Act.put, sA,sB,sC, i64_w, i32_w]; rfl
          refine pure_ (i := 3) (N := some 57) (v := ?_) (a' := ?_) #[Y,Y,Y,Y,N,N,N,N,N,N,N,N,N,N,N,N,N,N,N,N] rfl rfl (any_of HT_.out (by kernel_rfl)) (fun _ _ _ h => h) (Or.inl ⟨by rfl, ?_⟩) ?_ ?_; rotate_left
          ·intro w'; go_simp; with_reducible rfl
          rotate_left
          ·simp only [Act.put, sA,sB,sC, i64_w, i32_w]; rfl
          refine pure_ (i := 4) (N := some 58) (v := ?_) (a' := ?_) #[Y,Y,Y,Y,Y,N,N,N,N,N,N,N,N,N,N,N,N,N,N,N] rfl rfl (any_of HT_.out (by kernel_rfl)) (fun _ _ _ h => h) (Or.inl ⟨by rfl, ?_⟩) ?_ ?_; rotate_left
          ·intro w'; go_simp; with_reducible rfl
          rotate_left
          ·simp only [Act.put, sA,sB,sC, i64_w, i32_w]; rfl
          refine pure_ (i := 5) (N := some 59) (v := ?_) (a' := ?_) #[Y,Y,Y,Y,Y,Y,N,N,N,N,N,N,N,N,N,N,N,N,N,N] rfl rfl (any_of HT_.out (by kernel_rfl)) (fun _ _ _ h => h) (Or.inl ⟨by rfl, ?_⟩) ?_ ?_; rotate_left
          ·intro w'; go_simp; with_reducible rfl
          rotate_left
          ·simp only [Act.put, sA,sB,sC, i64_w, i32_w]; rfl
          refine pure_ (i := 6) (N := some 60) (v := ?_) (a' := ?_) #[Y,Y,Y,Y,Y,Y,Y,N,N,N,N,N,N,N,N,N,N,N,N,N] rfl rfl (any_of HT_.out (by kernel_rfl)) (fun _ _ _ h => h) (Or.inl ⟨by rfl, ?_⟩) ?_ ?_; rotate_left
          ·intro w'; go_simp; with_reducible rfl
          rotate_left
          ·simp only [Act.put, sA,sB,sC, i64_w, i32_w]; rfl
          refine pure_ (i := 7) (N := some 61) (v := undef) (a' := ?_) #[Y,Y,Y,Y,Y,Y,Y,Y,N,N,N,N,N,N,N,N,N,N,N,N] rfl rfl (any_of HT_.out (by kernel_rfl)) (fun _ _ _ h => h) (Or.inr ⟨by rfl, rfl⟩) ?_ ?_; rotate_left
          ·simp only [Act.put, sA,sB,sC, i64_w, i32_w]; rfl
          refine pure_ (i := 8) (N := some 62) (v := undef) (a' := ?_) #[Y,Y,Y,Y,Y,Y,Y,Y,Y,N,N,N,N,N,N,N,N,N,N,N] rfl rfl (any_of HT_.out (by kernel_rfl)) (fun _ _ _ h => h) (Or.inr ⟨by rfl, rfl⟩) ?_ ?_; rotate_left
          ·simp only [Act.put, sA,sB,sC, i64_w, i32_w]; rfl
          refine pure_ (i := 9) (N := some 63) (v := undef) (a' := ?_) #[Y,Y,Y,Y,Y,Y,Y,Y,Y,Y,N,N,N,N,N,N,N,N,N,N] rfl rfl (any_of HT_.out (by kernel_rfl)) (fun _ _ _ h => h) (Or.inr ⟨by rfl, rfl⟩) ?_ ?_; rotate_left
          ·simp only [Act.put, sA,sB,sC, i64_w, i32_w]; rfl
          refine pure_ (i := 10) (N := some 64) (v := undef) (a' := ?_) #[Y,Y,Y,Y,Y,Y,Y,Y,Y,Y,Y,N,N,N,N,N,N,N,N,N] rfl rfl (any_of HT_.out (by kernel_rfl)) (fun _ _ _ h => h) (Or.inr ⟨by rfl, rfl⟩) ?_ ?_; rotate_left
          ·simp only [Act.put, sA,sB,sC, i64_w, i32_w]; rfl
          refine pure_ (i := 11) (N := some 65) (v := undef) (a' := ?_) #[Y,Y,Y,Y,Y,Y,Y,Y,Y,Y,Y,Y,N,N,N,N,N,N,N,N] rfl rfl (any_of HT_.out (by kernel_rfl)) (fun _ _ _ h => h) (Or.inr ⟨by rfl, rfl⟩) ?_ ?_; rotate_left
          ·simp only [Act.put, sA,sB,sC, i64_w, i32_w]; rfl
          refine pure_ (i := 12) (N := some 66) (v := undef) (a' := ?_) #[Y,Y,Y,Y,Y,Y,Y,Y,Y,Y,Y,Y,Y,N,N,N,N,N,N,N] rfl rfl (any_of HT_.out (by kernel_rfl)) (fun _ _ _ h => h) (Or.inr ⟨by rfl, rfl⟩) ?_ ?_; rotate_left
          ·simp only [Act.put, sA,sB,sC, i64_w, i32_w]; rfl
          refine pure_ (i := 13) (N := some 67) (v := undef) (a' := ?_) #[Y,Y,Y,Y,Y,Y,Y,Y,Y,Y,Y,Y,Y,Y,N,N,N,N,N,N] rfl rfl (any_of HT_.out (by kernel_rfl)) (fun _ _ _ h => h) (Or.inr ⟨by rfl, rfl⟩) ?_ ?_; rotate_left
          ·simp only [Act.put, sA,sB,sC, i64_w, i32_w]; rfl
          refine pure_ (i := 14) (N := some 68) (v := undef) (a' := ?_) #[Y,Y,Y,Y,Y,Y,Y,Y,Y,Y,Y,Y,Y,Y,Y,N,N,N,N,N] rfl rfl (any_of HT_.out (by kernel_rfl)) (fun _ _ _ h => h) (Or.inr ⟨by rfl, rfl⟩) ?_ ?_; rotate_left
          ·simp only [Act.put, sA,sB,sC, i64_w, i32_w]; rfl
          refine pure_ (i := 15) (N := some 69) (v := undef) (a' := ?_) #[Y,Y,Y,Y,Y,Y,Y,Y,Y,Y,Y,Y,Y,Y,Y,Y,N,N,N,N] rfl rfl (any_of HT_.out (by kernel_rfl)) (fun _ _ _ h => h) (Or.inr ⟨by rfl, rfl⟩) ?_ ?_; rotate_left
          ·simp only [Act.put, sA,sB,sC, i64_w, i32_w]; rfl
          refine pure_ (i := 16) (N := some 70) (v := undef) (a' := ?_) #[Y,Y,Y,Y,Y,Y,Y,Y,Y,Y,Y,Y,Y,Y,Y,Y,Y,N,N,N] rfl rfl (any_of HT_.out (by kernel_rfl)) (fun _ _ _ h => h) (Or.inr ⟨by rfl, rfl⟩) ?_ ?_; rotate_left
          ·simp only [Act.put, sA,sB,sC, i64_w, i32_w]; rfl
          refine pure_ (i := 17) (N := some 71) (v := undef) (a' := ?_) #[Y,Y,Y,Y,Y,Y,Y,Y,Y,Y,Y,Y,Y,Y,Y,Y,Y,Y,N,N] rfl rfl (any_of HT_.out (by kernel_rfl)) (fun _ _ _ h => h) (Or.inr ⟨by rfl, rfl⟩) ?_ ?_; rotate_left
          ·simp only [Act.put, sA,sB,sC, i64_w, i32_w]; rfl
          refine pure_ (i := 18) (N := some 72) (v := ?_) (a' := ?_) #[Y,Y,Y,Y,Y,Y,Y,Y,Y,Y,Y,Y,Y,Y,Y,Y,Y,Y,Y,N] rfl rfl (any_of HT_.out (by kernel_rfl)) (fun _ _ _ h => h) (Or.inl ⟨by rfl, ?_⟩) ?_ ?_; rotate_left
          ·intro w'; go_simp; with_reducible rfl
          rotate_left
          ·simp only [Act.put, sA,sB,sC, i64_w, i32_w]; rfl
          refine pure_ (i := 19) (N := some 53) (v := ?_) (a' := ?_) #[Y,Y,Y,Y,Y,Y,Y,Y,Y,Y,Y,Y,Y,Y,Y,Y,Y,Y,Y,Y] rfl rfl (any_of HT_.out (by kernel_rfl)) (fun _ _ _ h => h) (Or.inl ⟨by rfl, ?_⟩) ?_ ?_; rotate_left
          ·intro w'; go_simp; with_reducible rfl
          rotate_left
          ·simp only [Act.put, sA,sB,sC, i64_w, i32_w]; rfl
          refine done_ (done_of HT_.out (by kernel_rfl)) ?_
          try go_wp2
          go_meet
          case rel => exact ⟨_, (false), (by first | rfl | (simp; done) | (simp [*]; done)), H', ⟨by have := HK1.out; have := HJ15.out; first | omega | exact Nat.le_refl _⟩, ⟨by (with_reducible repeat (first | apply Kd.R_alloc | apply Kd.R_drewN | apply Kd.R_drew)); exact HO_111001.out⟩, ⟨by (with_reducible repeat (first | refine blk_drewN ?_ _ | refine blk_drew ?_ | refine blk_alloc ?_ _)); exact BK108.out⟩, ⟨by (with_reducible repeat (first | refine blk_drewN ?_ _ | refine blk_drew ?_ | refine blk_alloc ?_ _)); exact BK109.out⟩, ⟨by (with_reducible repeat (first | refine blk_drewN ?_ _ | refine blk_drew ?_ | refine blk_alloc ?_ _)); exact BK110.out⟩, ⟨by repeat (first | (with_reducible first | exact HB.out | apply below_alloc | apply pw_below_drewN | apply below_drew1 | refine below_set ?_ GE108.out | refine below_set ?_ GE109.out | refine below_set ?_ GE110.out) | exact HB.out)⟩⟩
        ·rw [if_neg c27] at H
         have c27b0 : decide (0 < a2) = false := decide_eq_false c27
         clear c27
         (first | rw [c27b0] | (simp only [i64_w, i32_w]; rw [c27b0]) | skip)
         have H' := Aside0.mk H
         clear H
         try go_wp2
         have n0_ := Aside0.mk (Kd.R_drew HO_111001.out)
         have n1_ := Aside0.mk (blk_drew BK108.out)
         have n2_ := Aside0.mk (blk_drew BK109.out)
         have n3_ := Aside0.mk (blk_drew BK110.out)
         have n4_ := Aside0.mk (below_drew1 HB.out)
         clear HO_111001
         clear BK108
         clear BK109
         clear BK110
         clear HB
         have HO_111001 := n0_
         have BK108 := n1_
         have BK109 := n2_
         have BK110 := n3_
         have HB := n4_
         clear n0_ n1_ n2_ n3_ n4_
         refine start_ (n := 20) (S := fun w' => True) (ds := []) #[N,N,N,N,N,N,N,N,N,N,N,N,N,N,N,N,N,N,N,N] (by kernel_rfl) rfl rfl trivial (fun hHeld => ?_); refine with_tabW band_next.tab10 band_next.bits10 (fun HT_ HW_ => ?_)
         generalize wc.drew = w37 at HO_111001 BK108 BK109 BK110 HB hHeld ⊢
         refine pure_ (i := 0) (N := some 54) (v := ?_) (a' := ?_) #[Y,N,N,N,N,N,N,N,N,N,N,N,N,N,N,N,N,N,N,N] rfl rfl (any_of HT_.out (by kernel_rfl)) (fun _ _ _ h => h) (Or.inl ⟨by rfl, ?_⟩) ?_ ?_; rotate_left
         ·intro w'; go_simp; with_reducible rfl
         rotate_left
         ·simp only [Act.put, sA,sB,sC, i64_w, i32_w]; rfl
         refine pure_ (i := 1) (N := some 55) (v := ?_) (a' := ?_) #[Y,Y,N,N,N,N,N,N,N,N,N,N,N,N,N,N,N,N,N,N] rfl rfl (any_of HT_.out (by kernel_rfl)) (fun _ _ _ h => h) (Or.inl ⟨by rfl, ?_⟩) ?_ ?_; rotate_left
         ·intro w'; go_simp; with_reducible rfl
         rotate_left
         ·simp only [Act.put, sA,sB,sC, i64_w, i32_w]; rfl
         refine pure_ (i := 2) (N := some 56) (v := ?_) (a' := ?_) #[Y,Y,Y,N,N,N,N,N,N,N,N,N,N,N,N,N,N,N,N,N] rfl rfl (any_of HT_.out (by kernel_rfl)) (fun _ _ _ h => h) (Or.inl ⟨by rfl, ?_⟩) ?_ ?_; rotate_left
         ·intro w'; go_simp; with_reducible rfl
         rotate_left
         ·simp only [Act.put, sA,sB,sC, i64_w, i32_w]; rfl
         refine pure_ (i := 3) (N := some 57) (v := undef) (a' := ?_) #[Y,Y,Y,Y,N,N,N,N,N,N,N,N,N,N,N,N,N,N,N,N] rfl rfl (any_of HT_.out (by kernel_rfl)) (fun _ _ _ h => h) (Or.inr ⟨by rfl, rfl⟩) ?_ ?_; rotate_left
         ·simp only [Act.put, sA,sB,sC, i64_w, i32_w]; rfl
         refine pure_ (i := 4) (N := some 58) (v := undef) (a' := ?_) #[Y,Y,Y,Y,Y,N,N,N,N,N,N,N,N,N,N,N,N,N,N,N] rfl rfl (any_of HT_.out (by kernel_rfl)) (fun _ _ _ h => h) (Or.inr ⟨by rfl, rfl⟩) ?_ ?_; rotate_left
         ·simp only [Act.put, sA,sB,sC, i64_w, i32_w]; rfl
         refine pure_ (i := 5) (N := some 59) (v := ?_) (a' := ?_) #[Y,Y,Y,Y,Y,Y,N,N,N,N,N,N,N,N,N,N,N,N,N,N] rfl rfl (any_of HT_.out (by kernel_rfl)) (fun _ _ _ h => h) (Or.inl ⟨by rfl, ?_⟩) ?_ ?_; rotate_left
         ·intro w'; go_simp; with_reducible rfl
         rotate_left
         ·simp only [Act.put, sA,sB,sC, i64_w, i32_w]; rfl
         refine pure_ (i := 6) (N := some 60) (v := ?_) (a' := ?_) #[Y,Y,Y,Y,Y,Y,Y,N,N,N,N,N,N,N,N,N,N,N,N,N] rfl rfl (any_of HT_.out (by kernel_rfl)) (fun _ _ _ h => h) (Or.inl ⟨by rfl, ?_⟩) ?_ ?_; rotate_left
         ·intro w'; go_simp; with_reducible rfl
         rotate_left
         ·simp only [Act.put, sA,sB,sC, i64_w, i32_w]; rfl
         refine pure_ (i := 7) (N := some 61) (v := undef) (a' := ?_) #[Y,Y,Y,Y,Y,Y,Y,Y,N,N,N,N,N,N,N,N,N,N,N,N] rfl rfl (any_of HT_.out (by kernel_rfl)) (fun _ _ _ h => h) (Or.inr ⟨by rfl, rfl⟩) ?_ ?_; rotate_left
         ·simp only [Act.put, sA,sB,sC, i64_w, i32_w]; rfl
         refine pure_ (i := 8) (N := some 62) (v := undef) (a' := ?_) #[Y,Y,Y,Y,Y,Y,Y,Y,Y,N,N,N,N,N,N,N,N,N,N,N] rfl rfl (any_of HT_.out (by kernel_rfl)) (fun _ _ _ h => h) (Or.inr ⟨by rfl, rfl⟩) ?_ ?_; rotate_left
         ·simp only [Act.put, sA,sB,sC, i64_w, i32_w]; rfl
         refine pure_ (i := 9) (N := some 63) (v := undef) (a' := ?_) #[Y,Y,Y,Y,Y,Y,Y,Y,Y,Y,N,N,N,N,N,N,N,N,N,N] rfl rfl (any_of HT_.out (by kernel_rfl)) (fun _ _ _ h => h) (Or.inr ⟨by rfl, rfl⟩) ?_ ?_; rotate_left
         ·simp only [Act.put, sA,sB,sC, i64_w, i32_w]; rfl
         refine pure_ (i := 10) (N := some 64) (v := undef) (a' := ?_) #[Y,Y,Y,Y,Y,Y,Y,Y,Y,Y,Y,N,N,N,N,N,N,N,N,N] rfl rfl (any_of HT_.out (by kernel_rfl)) (fun _ _ _ h => h) (Or.inr ⟨by rfl, rfl⟩) ?_ ?_; rotate_left
         ·simp only [Act.put, sA,sB,sC, i64_w, i32_w]; rfl
         refine pure_ (i := 11) (N := some 65) (v := undef) (a' := ?_) #[Y,Y,Y,Y,Y,Y,Y,Y,Y,Y,Y,Y,N,N,N,N,N,N,N,N] rfl rfl (any_of HT_.out (by kernel_rfl)) (fun _ _ _ h => h) (Or.inr ⟨by rfl, rfl⟩) ?_ ?_; rotate_left
         ·simp only [Act.put, sA,sB,sC, i64_w, i32_w]; rfl
         refine pure_ (i := 12) (N := some 66) (v := undef) (a' := ?_) #[Y,Y,Y,Y,Y,Y,Y,Y,Y,Y,Y,Y,Y,N,N,N,N,N,N,N] rfl rfl (any_of HT_.out (by kernel_rfl)) (fun _ _ _ h => h) (Or.inr ⟨by rfl, rfl⟩) ?_ ?_; rotate_left
         ·simp only [Act.put, sA,sB,sC, i64_w, i32_w]; rfl
         refine pure_ (i := 13) (N := some 67) (v := undef) (a' := ?_) #[Y,Y,Y,Y,Y,Y,Y,Y,Y,Y,Y,Y,Y,Y,N,N,N,N,N,N] rfl rfl (any_of HT_.out (by kernel_rfl)) (fun _ _ _ h => h) (Or.inr ⟨by rfl, rfl⟩) ?_ ?_; rotate_left
         ·simp only [Act.put, sA,sB,sC, i64_w, i32_w]; rfl
         refine pure_ (i := 14) (N := some 68) (v := undef) (a' := ?_) #[Y,Y,Y,Y,Y,Y,Y,Y,Y,Y,Y,Y,Y,Y,Y,N,N,N,N,N] rfl rfl (any_of HT_.out (by kernel_rfl)) (fun _ _ _ h => h) (Or.inr ⟨by rfl, rfl⟩) ?_ ?_; rotate_left
         ·simp only [Act.put, sA,sB,sC, i64_w, i32_w]; rfl
         refine pure_ (i := 15) (N := some 69) (v := undef) (a' := ?_) #[Y,Y,Y,Y,Y,Y,Y,Y,Y,Y,Y,Y,Y,Y,Y,Y,N,N,N,N] rfl rfl (any_of HT_.out (by kernel_rfl)) (fun _ _ _ h => h) (Or.inr ⟨by rfl, rfl⟩) ?_ ?_; rotate_left
         ·simp only [Act.put, sA,sB,sC, i64_w, i32_w]; rfl
         refine pure_ (i := 16) (N := some 70) (v := undef) (a' := ?_) #[Y,Y,Y,Y,Y,Y,Y,Y,Y,Y,Y,Y,Y,Y,Y,Y,Y,N,N,N] rfl rfl (any_of HT_.out (by kernel_rfl)) (fun _ _ _ h => h) (Or.inr ⟨by rfl, rfl⟩) ?_ ?_; rotate_left
         ·simp only [Act.put, sA,sB,sC, i64_w, i32_w]; rfl
         refine pure_ (i := 17) (N := some 71) (v := undef) (a' := ?_) #[Y,Y,Y,Y,Y,Y,Y,Y,Y,Y,Y,Y,Y,Y,Y,Y,Y,Y,N,N] rfl rfl (any_of HT_.out (by kernel_rfl)) (fun _ _ _ h => h) (Or.inr ⟨by rfl, rfl⟩) ?_ ?_; rotate_left
         ·simp only [Act.put, sA,sB,sC, i64_w, i32_w]; rfl
         refine pure_ (i := 18) (N := some 72) (v := ?_) (a' := ?_) #[Y,Y,Y,Y,Y,Y,Y,Y,Y,Y,Y,Y,Y,Y,Y,Y,Y,Y,Y,N] rfl rfl (any_of HT_.out (by kernel_rfl)) (fun _ _ _ h => h) (Or.inl ⟨by rfl, ?_⟩) ?_ ?_; rotate_left
         ·intro w'; go_simp; with_reducible rfl
         rotate_left
         ·simp only [Act.put, sA,sB,sC, i64_w, i32_w]; rfl
         refine pure_ (i := 19) (N := some 53) (v := ?_) (a' := ?_) #[Y,Y,Y,Y,Y,Y,Y,Y,Y,Y,Y,Y,Y,Y,Y,Y,Y,Y,Y,Y] rfl rfl (any_of HT_.out (by kernel_rfl)) (fun _ _ _ h => h) (Or.inl ⟨by rfl, ?_⟩) ?_ ?_; rotate_left
         ·intro w'; go_simp; with_reducible rfl
         rotate_left
         ·simp only [Act.put, sA,sB,sC, i64_w, i32_w]; rfl
         refine done_ (done_of HT_.out (by kernel_rfl)) ?_
         try go_wp2
         go_meet
         case rel => exact ⟨_, (false), (by first | rfl | (simp; done) | (simp [*]; done)), H', ⟨by have := HK1.out; have := HJ15.out; first | omega | exact Nat.le_refl _⟩, ⟨by (with_reducible repeat (first | apply Kd.R_alloc | apply Kd.R_drewN | apply Kd.R_drew)); exact HO_111001.out⟩, ⟨by (with_reducible repeat (first | refine blk_drewN ?_ _ | refine blk_drew ?_ | refine blk_alloc ?_ _)); exact BK108.out⟩, ⟨by (with_reducible repeat (first | refine blk_drewN ?_ _ | refine blk_drew ?_ | refine blk_alloc ?_ _)); exact BK109.out⟩, ⟨by (with_reducible repeat (first | refine blk_drewN ?_ _ | refine blk_drew ?_ | refine blk_alloc ?_ _)); exact BK110.out⟩, ⟨by repeat (first | (with_reducible first | exact HB.out | apply below_alloc | apply pw_below_drewN | apply below_drew1 | refine below_set ?_ GE108.out | refine below_set ?_ GE109.out | refine below_set ?_ GE110.out) | exact HB.out)⟩⟩
       case rest =>
        clear HC26
        try clear c1
        try clear p1
        try clear q1
        try clear hx1
        try clear c2
        try clear p2
        try clear c3
        try clear c5
        try clear p6
        try clear p11
        try clear q11
        try clear hx11
        try clear c12
        try clear c13
        try clear c15
        try clear c15b0
        try clear c17
        try clear c17b0
        try clear c17b1
        try clear c18
        try clear c19
        try clear c20
        try clear c21
        try clear c27
        try clear c27b0
        try clear c28
        try clear c28b0
        try clear c30
        try clear c30b0
        try clear c31
        try clear c31b0
        try clear c33
        try clear c33b0
        try clear c34
        try clear c34b0
        try clear hcz14_0
        try clear hcz14_1
        try clear hcz22_0
        try clear hcz22_1
        try clear hcz25_0
        try clear hcz25_1
        try clear hfz14_0
        try clear hfz14_1
        try clear hfz22_0
        try clear hfz22_1
        try clear hfz25_0
        try clear hfz25_1
        try clear hx114_0
        try clear hx115_0
        try clear p114
        try clear p115
        try clear p2
        try clear p6
        try clear q114
        try clear q115
        obtain ⟨kq, x53_25, rfl, HA, HJ25, HO_111001, BK108, BK109, BK110, HB⟩ := hcut
        cases kq with
        | zero => exact absurd HA.out (by simp [band_next.j2])
        | succ kj25 =>
         have H := HA.out
         clear HA
         simp only [band_next.j2] at H
         by_cases c38 : x53_25 = true
         ·subst c38
          have H1 : ((band_line_at.f a5_0 l5_1 (wrap64 (x16_1 - 1))).bind fun t116 => (if x111001_1.length < 17592186044416 then (band_next.l0 kj25 l0 l1 a2 ji8 (wrap64 (x16_1 + 1)) a5_0 l5_1 ji7 (x111001_1 ++ [t116])) else (none))) = some (r1, r2) := by rw [if_pos rfl] at H; exact H
          clear H
          have H := H1
          clear H1
          replace H := Option.bind_eq_some_iff.mp H
          obtain ⟨t116, A390, H⟩ := H
          replace H : (if x111001_1.length < 17592186044416 then (band_next.l0 kj25 l0 l1 a2 ji8 (wrap64 (x16_1 + 1)) a5_0 l5_1 ji7 (x111001_1 ++ [t116])) else (none)) = some (r1, r2) := H
          have A39 := Aside0.mk A390
          clear A390
          by_cases c40 : x111001_1.length < 17592186044416
          ·rw [if_pos c40] at H
           have LMc40 := Aside0.mk c40
           clear c40
           obtain ⟨y117, hy117⟩ : ∃ y_ : List Int, y_ = (x111001_1 ++ [t116]) := ⟨_, rfl⟩
           replace H : (band_next.l0 kj25 l0 l1 a2 ji8 (wrap64 (x16_1 + 1)) a5_0 l5_1 ji7 y117) = some (r1, r2) := by first | (rw [hy117]; with_reducible exact H) | (have H2_ := (Option.bind_some _ _).symm.trans H; rw [hy117]; with_reducible exact H2_) | (have H2_ := (Option.bind_some _ _).symm.trans H; with_reducible exact H2_) | with_reducible exact H | (rw [hy117]; exact H) | exact H
           have Ny117 := Aside0.mk hy117
           clear hy117
           have H' := Aside0.mk H
           clear H
           have hnb41 := NB108_109.out
           have hnc41 := NB109_108.out
           have hnb42 := NB108_110.out
           have hnc42 := NB110_108.out
           have hcz43_0 : wc.cell? ⟨gb108, 0, none⟩ = some (.int .i64 a5_0) := (blk_cell BK108.out 0).trans rfl
           have hcz43_1 : wc.cell? ⟨gb108, 1, none⟩ = some (.slice A5_1 l5_1.length c5_1) := (blk_cell BK108.out 1).trans rfl
           have hfz43_0 := blk_frozen BK108.out 0
           have hfz43_1 := blk_frozen BK108.out 1
           go_wp2_with (first | ((first | (with_reducible refine gate_callee (f := 23) rfl ?_); refine goesL_ (some 76) rfl rfl Try.func23 (by kernel_rfl) rfl #[.agg #[.int .i64 a5_0, .slice A5_1 l5_1.length c5_1], .int .i64 (wrap64 (x16_1 - 1))] rfl (by (try simp only [List.map_toArray, List.map_cons, List.map_nil]); first | done | rfl | (simp only [List.length_drop, List.length_take]; rfl)) ?_ | go_at_call 23); (with_reducible refine (band_line_at.calls a5_0 _ _ l5_1 (wrap64 (x16_1 - 1)) t116 _ ?side1 ?side2 A39.out).mono ?_); (case side1 => repeat (first | exact (Kd.C_below HR5_1.out HB.out) | (with_reducible refine Kd.C_alloc ?_ _) | (with_reducible refine Kd.C_drewN ?_ _) | (with_reducible refine Kd.C_drew ?_))); (case side2 => exact HC5_1.out); rintro e w44 ⟨rfl, hb⟩; (try refine ⟨_, rfl, ?_⟩); have n0_ := Aside0.mk (Kd.R_below (by (with_reducible repeat (first | apply Kd.R_alloc | apply Kd.R_drewN | apply Kd.R_drew)); exact HO_111001.out) hb); have n1_ := Aside0.mk (blk_below (g := gb108) (o := .cells #[.int .i64 a5_0, .slice A5_1 l5_1.length c5_1] 43 (0, 0)) (by (with_reducible repeat (first | refine blk_drewN ?_ _ | refine blk_drew ?_ | refine blk_alloc ?_ _)); exact BK108.out) hb); have n2_ := Aside0.mk (blk_below (g := gb109) (o := .cells #[.int .i64 0, .slice none 0 0] 43 (0, 0)) (by (with_reducible repeat (first | refine blk_drewN ?_ _ | refine blk_drew ?_ | refine blk_alloc ?_ _)); exact BK109.out) hb); have n3_ := Aside0.mk (blk_below (g := gb110) (o := .cells #[.int .i64 ji7, u111001] 43 (0, 0)) (by (with_reducible repeat (first | refine blk_drewN ?_ _ | refine blk_drew ?_ | refine blk_alloc ?_ _)); exact BK110.out) hb); have n4_ := Aside0.mk (below_step (by repeat (first | (with_reducible first | exact HB.out | apply below_alloc | apply pw_below_drewN | apply below_drew1 | refine below_set ?_ GE108.out | refine below_set ?_ GE109.out | refine below_set ?_ GE110.out) | exact HB.out)) hb); clear HO_111001; clear BK108; clear BK109; clear BK110; clear HB; have HO_111001 := n0_; have BK108 := n1_; have BK109 := n2_; have BK110 := n3_; have HB := n4_; clear n0_ n1_ n2_ n3_ n4_; (try clear hb); (try clear hb2); (try clear hk); (try clear hi); have hnb45 := NB110_109.out; have hnc45 := NB109_110.out; have hcz46_0 : w44.cell? ⟨gb110, 0, none⟩ = some (.int .i64 ji7) := (blk_cell BK110.out 0).trans rfl; have hcz46_1 : w44.cell? ⟨gb110, 1, none⟩ = some (u111001) := (blk_cell BK110.out 1).trans rfl; have hfz46_0 := blk_frozen BK110.out 0; have hfz46_1 := blk_frozen BK110.out 1) | ((with_reducible refine gate_builtin (b := .append) (xs := #[.tmp 78, .tmp 80]) rfl ?_); at_builtin; refine Kd.R_append (Kd.int .i64) (w0 := w) w.heap.size rfl (.tmp 78) (.tmp 80) 25 3 (.int .i64 0) 8 rfl Try.underlying25 info3 rfl (by decide) (by omega) u111001 x111001_1 t116 [.int .i64 t116] (fun _ => True) (fun _ => False) rfl rfl ?aP (fun _ hk => hk.elim) ?aF ?aO ?aB ?aS ?aL ?_; (case aP => exact rfl); (case aB => exact (by repeat (first | (with_reducible first | exact HB.out | apply below_alloc | apply pw_below_drewN | apply below_drew1 | refine below_set ?_ GE108.out | refine below_set ?_ GE109.out | refine below_set ?_ GE110.out) | exact HB.out))); (case aF => exact (fun _ _ => trivial)); (case aO => exact (by (with_reducible repeat (first | apply Kd.R_alloc | apply Kd.R_drewN | apply Kd.R_drew)); exact HO_111001.out)); (case aS => exact (below_size (by repeat (first | (with_reducible first | exact HB.out | apply below_alloc | apply pw_below_drewN | apply below_drew1 | refine below_set ?_ GE108.out | refine below_set ?_ GE109.out | refine below_set ?_ GE110.out) | exact HB.out)))); (case aL => have := LMc40.out; omega); intro v118 w47 ho hb hg hat; rw [← Ny117.out] at ho; have n0_ := Aside0.mk (blk_grown (g := gb108) (o := .cells #[.int .i64 a5_0, .slice A5_1 l5_1.length c5_1] 43 (0, 0)) (by (with_reducible repeat (first | refine blk_drewN ?_ _ | refine blk_drew ?_ | refine blk_alloc ?_ _)); exact BK108.out) hg (Kd.R_ne HO_111001.out BK108.out (by decide))); have n1_ := Aside0.mk (blk_grown (g := gb109) (o := .cells #[.int .i64 0, .slice none 0 0] 43 (0, 0)) (by (with_reducible repeat (first | refine blk_drewN ?_ _ | refine blk_drew ?_ | refine blk_alloc ?_ _)); exact BK109.out) hg (Kd.R_ne HO_111001.out BK109.out (by decide))); have n2_ := Aside0.mk (blk_grown (g := gb110) (o := .cells #[.int .i64 ji7, u111001] 43 (0, 0)) (by (with_reducible repeat (first | refine blk_drewN ?_ _ | refine blk_drew ?_ | refine blk_alloc ?_ _)); exact BK110.out) hg (Kd.R_ne HO_111001.out BK110.out (by decide))); have n3_ := Aside0.mk (hb); have n4_ := Aside0.mk (ho); clear BK108; clear BK109; clear BK110; clear HB; clear HO_111001; have BK108 := n0_; have BK109 := n1_; have BK110 := n2_; have HB := n3_; have HO119 := n4_; clear n0_ n1_ n2_ n3_ n4_; (try clear ho); (try clear hb); (try clear hg); (try clear hat); obtain ⟨Ao48, co48, eo48⟩ := Kd.R_slice HO119.out; subst eo48; have hcz49_0 : w47.cell? ⟨gb110, 0, none⟩ = some (.int .i64 ji7) := (blk_cell BK110.out 0).trans rfl; have hcz49_1 : w47.cell? ⟨gb110, 1, none⟩ = some (u111001) := (blk_cell BK110.out 1).trans rfl; have hfz49_0 := blk_frozen BK110.out 0; have hfz49_1 := blk_frozen BK110.out 1))
           go_roundg kj25
           case measure => have := HK1.out; have := HJ15.out; have := HJ25.out; omega
           case rel => exact ⟨(wrap64 (x16_1 + 1)), (y117), (.slice Ao48 y117.length co48), (by first | rfl | (simp; done) | (simp [*]; done)), H', ⟨by have := HK1.out; have := HJ15.out; have := HJ25.out; omega⟩, ⟨by (with_reducible repeat (first | apply Kd.R_alloc | apply Kd.R_drewN | apply Kd.R_drew)); exact Kd.R_mono (Kd.R_far (p := ⟨gb110, 1, none⟩) (Kd.R_types HO119.out BK110.out (by decide)) (fun _ hk => hk.2) (.slice Ao48 y117.length co48)) (fun _ hk => trivial)⟩, ⟨by (with_reducible repeat (first | refine blk_drewN ?_ _ | refine blk_drew ?_ | refine blk_alloc ?_ _)); refine blk_far ?_ NB108_110.out _; (with_reducible repeat (first | refine blk_drewN ?_ _ | refine blk_drew ?_ | refine blk_alloc ?_ _)); exact BK108.out⟩, ⟨by (with_reducible repeat (first | refine blk_drewN ?_ _ | refine blk_drew ?_ | refine blk_alloc ?_ _)); refine blk_far ?_ NB109_110.out _; (with_reducible repeat (first | refine blk_drewN ?_ _ | refine blk_drew ?_ | refine blk_alloc ?_ _)); exact BK109.out⟩, ⟨by (with_reducible repeat (first | refine blk_drewN ?_ _ | refine blk_drew ?_ | refine blk_alloc ?_ _)); refine blk_put (cs := #[.int .i64 ji7, u111001]) ?_ 1 _ rfl; (with_reducible repeat (first | refine blk_drewN ?_ _ | refine blk_drew ?_ | refine blk_alloc ?_ _)); exact BK110.out⟩, ⟨by repeat (first | (with_reducible first | exact HB.out | apply below_alloc | apply pw_below_drewN | apply below_drew1 | refine below_set ?_ GE108.out | refine below_set ?_ GE109.out | refine below_set ?_ GE110.out) | exact HB.out)⟩⟩
          ·rw [if_neg c40] at H
           exact absurd H (by simp)
         ·replace c38 := Bool.eq_false_iff.mpr c38
          subst c38
          have H1 : ((band_line_at.f a5_0 l5_1 x16_1).bind fun t120 => ((band_line_at.f ji7 x111001_1 (wrap64 (x16_1 - 1))).bind fun t121 => (if x111001_1.length < 17592186044416 then (band_next.l0 kj25 l0 l1 a2 ji8 (wrap64 (x16_1 + 1)) a5_0 l5_1 ji7 (x111001_1 ++ [mn (mn 1152921504606846976 (wrap64 (t120 + 1))) (wrap64 (t121 + 1))])) else (none)))) = some (r1, r2) := by rw [if_neg (show ¬ (false = true) by decide)] at H; exact H
          clear H
          have H := H1
          clear H1
          replace H := Option.bind_eq_some_iff.mp H
          obtain ⟨t120, A500, H⟩ := H
          replace H : ((band_line_at.f ji7 x111001_1 (wrap64 (x16_1 - 1))).bind fun t121 => (if x111001_1.length < 17592186044416 then (band_next.l0 kj25 l0 l1 a2 ji8 (wrap64 (x16_1 + 1)) a5_0 l5_1 ji7 (x111001_1 ++ [mn (mn 1152921504606846976 (wrap64 (t120 + 1))) (wrap64 (t121 + 1))])) else (none))) = some (r1, r2) := H
          have A50 := Aside0.mk A500
          clear A500
          replace H := Option.bind_eq_some_iff.mp H
          obtain ⟨t121, A510, H⟩ := H
          replace H : (if x111001_1.length < 17592186044416 then (band_next.l0 kj25 l0 l1 a2 ji8 (wrap64 (x16_1 + 1)) a5_0 l5_1 ji7 (x111001_1 ++ [mn (mn 1152921504606846976 (wrap64 (t120 + 1))) (wrap64 (t121 + 1))])) else (none)) = some (r1, r2) := H
          have A51 := Aside0.mk A510
          clear A510
          obtain ⟨ji52, hji52⟩ : ∃ j_ : Int, (mn 1152921504606846976 (wrap64 (t120 + 1))) = j_ := ⟨_, rfl⟩
          replace H : (if x111001_1.length < 17592186044416 then (band_next.l0 kj25 l0 l1 a2 ji8 (wrap64 (x16_1 + 1)) a5_0 l5_1 ji7 (x111001_1 ++ [mn (ji52) (wrap64 (t121 + 1))])) else (none)) = some (r1, r2) := by first | (rw [hji52] at H; exact H) | (simp only [hji52] at H ⊢; exact H)
          (try rw [hji52] at A50)
          (try rw [hji52] at A51)
          (try (have hji52h : ji52 ≤ 1152921504606846976 := by (rw [← hji52]; unfold mn; (repeat' split) <;> omega)))
          (try (have hji52g : ji52 ≤ 64 := by omega))
          have hji52_ : (if (wrap64 (t120 + 1)) < 1152921504606846976 then (wrap64 (t120 + 1)) else 1152921504606846976) = ji52 := hji52
          obtain ⟨ji53, hji53⟩ : ∃ j_ : Int, (mn (ji52) (wrap64 (t121 + 1))) = j_ := ⟨_, rfl⟩
          replace H : (if x111001_1.length < 17592186044416 then (band_next.l0 kj25 l0 l1 a2 ji8 (wrap64 (x16_1 + 1)) a5_0 l5_1 ji7 (x111001_1 ++ [ji53])) else (none)) = some (r1, r2) := by first | (rw [hji53] at H; exact H) | (simp only [hji53] at H ⊢; exact H)
          (try rw [hji53] at A50)
          (try rw [hji53] at A51)
          have hji53_ : (if (wrap64 (t121 + 1)) < (ji52) then (wrap64 (t121 + 1)) else (ji52)) = ji53 := hji53
          by_cases c54 : x111001_1.length < 17592186044416
          ·rw [if_pos c54] at H
           have LMc54 := Aside0.mk c54
           clear c54
           obtain ⟨y122, hy122⟩ : ∃ y_ : List Int, y_ = (x111001_1 ++ [ji53]) := ⟨_, rfl⟩
           replace H : (band_next.l0 kj25 l0 l1 a2 ji8 (wrap64 (x16_1 + 1)) a5_0 l5_1 ji7 y122) = some (r1, r2) := by first | (rw [hy122]; with_reducible exact H) | (have H2_ := (Option.bind_some _ _).symm.trans H; rw [hy122]; with_reducible exact H2_) | (have H2_ := (Option.bind_some _ _).symm.trans H; with_reducible exact H2_) | with_reducible exact H | (rw [hy122]; exact H) | exact H
           have Ny122 := Aside0.mk hy122
           clear hy122
           have H' := Aside0.mk H
           clear H
           try go_wp2
           have n0_ := Aside0.mk (Kd.R_drew HO_111001.out)
           have n1_ := Aside0.mk (blk_drew BK108.out)
           have n2_ := Aside0.mk (blk_drew BK109.out)
           have n3_ := Aside0.mk (blk_drew BK110.out)
           have n4_ := Aside0.mk (below_drew1 HB.out)
           clear HO_111001
           clear BK108
           clear BK109
           clear BK110
           clear HB
           have HO_111001 := n0_
           have BK108 := n1_
           have BK109 := n2_
           have BK110 := n3_
           have HB := n4_
           clear n0_ n1_ n2_ n3_ n4_
           refine start_ (n := 11) (S := fun w' => w'.cell? ⟨gb108, 0, none⟩ = some (.int .i64 a5_0) ∧ w'.cell? ⟨gb108, 1, none⟩ = some (.slice A5_1 l5_1.length c5_1) ∧ w'.cell? ⟨gb110, 0, none⟩ = some (.int .i64 ji7) ∧ w'.cell? ⟨gb110, 1, none⟩ = some (u111001)) (ds := []) #[N,N,N,N,N,N,N,N,N,N,N] (by kernel_rfl) rfl rfl ⟨(blk_cell BK108.out 0).trans rfl, (blk_cell BK108.out 1).trans rfl, (blk_cell BK110.out 0).trans rfl, (blk_cell BK110.out 1).trans rfl⟩ (fun hHeld => ?_); refine with_tabW band_next.tab7 band_next.bits7 (fun HT_ HW_ => ?_)
           generalize wc.drew = w55 at HO_111001 BK108 BK109 BK110 HB hHeld ⊢
           refine pure_ (i := 1) (N := some 37) (v := ?_) (a' := ?_) #[N,Y,N,N,N,N,N,N,N,N,N] rfl rfl (any_of HT_.out (by kernel_rfl)) (fun _ _ _ h => h) (Or.inl ⟨by rfl, ?_⟩) ?_ ?_; rotate_left
           ·intro w'; go_simp; with_reducible rfl
           rotate_left
           ·simp only [Act.put, sA,sB,sC, i64_w, i32_w]; rfl
           refine pure_ (i := 5) (N := some 41) (v := ?_) (a' := ?_) #[N,Y,N,N,N,Y,N,N,N,N,N] rfl rfl (any_of HT_.out (by kernel_rfl)) (fun _ _ _ h => h) (Or.inl ⟨by rfl, ?_⟩) ?_ ?_; rotate_left
           ·intro w'; go_simp; with_reducible rfl
           rotate_left
           ·simp only [Act.put, sA,sB,sC, i64_w, i32_w]; rfl
           refine pure_ (i := 6) (N := some 42) (v := ?_) (a' := ?_) #[N,Y,N,N,N,Y,Y,N,N,N,N] rfl rfl (any_of HT_.out (by kernel_rfl)) (fun _ _ _ h => h) (Or.inl ⟨by rfl, ?_⟩) ?_ ?_; rotate_left
           ·intro w'; go_simp; with_reducible rfl
           rotate_left
           ·simp only [Act.put, sA,sB,sC, i64_w, i32_w]; rfl
           refine take_ (i := 0) (N := some 36) (v := ?_) (a' := ?_) #[Y,Y,N,N,N,Y,Y,N,N,N,N] rfl rfl (take_ofW HT_.out HW_.out (by kernel_rfl)) (fun _ _ _ h => h) (Or.inl ⟨by rfl, ?_⟩) hHeld ?_ ?_; rotate_left
           ·rintro w' ⟨s0, s1, s2, s3⟩; go_simp; with_reducible rfl
           rotate_left
           ·simp only [Act.put, sA,sB,sC, i64_w, i32_w]; rfl
           refine take_ (i := 4) (N := some 40) (v := ?_) (a' := ?_) #[Y,Y,N,N,Y,Y,Y,N,N,N,N] rfl rfl (take_ofW HT_.out HW_.out (by kernel_rfl)) (fun _ _ _ h => h) (Or.inl ⟨by rfl, ?_⟩) hHeld ?_ ?_; rotate_left
           ·rintro w' ⟨s0, s1, s2, s3⟩; go_simp; with_reducible rfl
           rotate_left
           ·simp only [Act.put, sA,sB,sC, i64_w, i32_w]; rfl
           refine one_ (i := 2) (N := some 38) #[Y,Y,Y,N,Y,Y,Y,N,N,N,N] rfl rfl (one_of HT_.out (by kernel_rfl)) (by decide) (fun K hK => ?_)
           refine goes_ Try.func23 (by kernel_rfl) rfl #[.agg #[.int .i64 a5_0, .slice A5_1 l5_1.length c5_1], .int .i64 x16_1] (by rfl) rfl rfl (by (try simp only [List.map_toArray, List.map_cons, List.map_nil]); first | done | rfl | (simp only [List.length_drop, List.length_take]; rfl)) ?_
           with_reducible refine (band_line_at.calls a5_0 _ _ l5_1 x16_1 t120 _ ?side1 ?side2 A50.out).mono ?_
           (case side1 => repeat (first | exact (Kd.C_below HR5_1.out HB.out) | (with_reducible refine Kd.C_alloc ?_ _) | (with_reducible refine Kd.C_drewN ?_ _) | (with_reducible refine Kd.C_drew ?_)))
           (case side2 => exact HC5_1.out)
           rintro e w56 ⟨rfl, hb⟩
           refine ⟨_, rfl, ?_⟩
           have n0_ := Aside0.mk (Kd.R_below (by (with_reducible repeat (first | apply Kd.R_alloc | apply Kd.R_drewN | apply Kd.R_drew)); exact HO_111001.out) hb)
           have n1_ := Aside0.mk (blk_below (g := gb108) (o := .cells #[.int .i64 a5_0, .slice A5_1 l5_1.length c5_1] 43 (0, 0)) (by (with_reducible repeat (first | refine blk_drewN ?_ _ | refine blk_drew ?_ | refine blk_alloc ?_ _)); exact BK108.out) hb)
           have n2_ := Aside0.mk (blk_below (g := gb109) (o := .cells #[.int .i64 0, .slice none 0 0] 43 (0, 0)) (by (with_reducible repeat (first | refine blk_drewN ?_ _ | refine blk_drew ?_ | refine blk_alloc ?_ _)); exact BK109.out) hb)
           have n3_ := Aside0.mk (blk_below (g := gb110) (o := .cells #[.int .i64 ji7, u111001] 43 (0, 0)) (by (with_reducible repeat (first | refine blk_drewN ?_ _ | refine blk_drew ?_ | refine blk_alloc ?_ _)); exact BK110.out) hb)
           have n4_ := Aside0.mk (below_step (by repeat (first | (with_reducible first | exact HB.out | apply below_alloc | apply pw_below_drewN | apply below_drew1 | refine below_set ?_ GE108.out | refine below_set ?_ GE109.out | refine below_set ?_ GE110.out) | exact HB.out)) hb)
           clear HO_111001
           clear BK108
           clear BK109
           clear BK110
           clear HB
           have HO_111001 := n0_
           have BK108 := n1_
           have BK109 := n2_
           have BK110 := n3_
           have HB := n4_
           clear n0_ n1_ n2_ n3_ n4_
           (try clear hb)
           (try clear hb2)
           (try clear hk)
           (try clear hi)
           obtain ⟨Ao57, co57, eo57⟩ := Kd.R_slice HO_111001.out
           (first | subst eo57 | (injection eo57 with f1_ f2_ f3_; have f4_ := f1_.symm; have f5_ := f3_.symm; clear f1_ f2_ f3_; subst f4_; subst f5_))
           refine hK.out _ _ ⟨(blk_cell BK108.out 0).trans rfl, (blk_cell BK108.out 1).trans rfl, (blk_cell BK110.out 0).trans rfl, (blk_cell BK110.out 1).trans rfl⟩ (fun hHeld => ?_)
           clear hK K
           refine norm_ (a' := ?_) ?_ ?_
           rotate_left
           ·show Act.put _ (some 38) _ = _
            simp only [Act.put, sA,sB,sC, i64_w, i32_w]; rfl
           refine pure_ (i := 3) (N := some 39) (v := ?_) (a' := ?_) #[Y,Y,Y,Y,Y,Y,Y,N,N,N,N] rfl rfl (any_of HT_.out (by kernel_rfl)) (fun _ _ _ h => h) (Or.inl ⟨by rfl, ?_⟩) ?_ ?_; rotate_left
           ·intro w'; go_simp; with_reducible rfl
           rotate_left
           ·simp only [Act.put, sA,sB,sC, i64_w, i32_w]; rfl
           refine one_ (i := 7) (N := some 43) #[Y,Y,Y,Y,Y,Y,Y,Y,N,N,N] rfl rfl (one_of HT_.out (by kernel_rfl)) (by decide) (fun K hK => ?_)
           refine goes_ Try.func23 (by kernel_rfl) rfl #[.agg #[.int .i64 ji7, .slice Ao57 x111001_1.length co57], .int .i64 (wrap64 (x16_1 - 1))] (by rfl) rfl rfl (by (try simp only [List.map_toArray, List.map_cons, List.map_nil]); first | done | (simp only [hji7]; rfl) | rfl | (simp only [List.length_drop, List.length_take]; rfl)) ?_
           with_reducible refine (band_line_at.calls ji7 _ _ x111001_1 (wrap64 (x16_1 - 1)) t121 _ ?side1 ?side2 A51.out).mono ?_
           (case side1 => repeat (first | exact (Kd.R_reads' HO_111001.out).2.2 | (with_reducible refine Kd.C_alloc ?_ _) | (with_reducible refine Kd.C_drewN ?_ _) | (with_reducible refine Kd.C_drew ?_)))
           (case side2 => exact (Kd.R_reads' HO_111001.out).2.1)
           rintro e w58 ⟨rfl, hb⟩
           refine ⟨_, rfl, ?_⟩
           have n0_ := Aside0.mk (Kd.R_below (by (with_reducible repeat (first | apply Kd.R_alloc | apply Kd.R_drewN | apply Kd.R_drew)); exact HO_111001.out) hb)
           have n1_ := Aside0.mk (blk_below (g := gb108) (o := .cells #[.int .i64 a5_0, .slice A5_1 l5_1.length c5_1] 43 (0, 0)) (by (with_reducible repeat (first | refine blk_drewN ?_ _ | refine blk_drew ?_ | refine blk_alloc ?_ _)); exact BK108.out) hb)
           have n2_ := Aside0.mk (blk_below (g := gb109) (o := .cells #[.int .i64 0, .slice none 0 0] 43 (0, 0)) (by (with_reducible repeat (first | refine blk_drewN ?_ _ | refine blk_drew ?_ | refine blk_alloc ?_ _)); exact BK109.out) hb)
           have n3_ := Aside0.mk (blk_below (g := gb110) (o := .cells #[.int .i64 ji7, .slice Ao57 x111001_1.length co57] 43 (0, 0)) (by (with_reducible repeat (first | refine blk_drewN ?_ _ | refine blk_drew ?_ | refine blk_alloc ?_ _)); exact BK110.out) hb)
           have n4_ := Aside0.mk (below_step (by repeat (first | (with_reducible first | exact HB.out | apply below_alloc | apply pw_below_drewN | apply below_drew1 | refine below_set ?_ GE108.out | refine below_set ?_ GE109.out | refine below_set ?_ GE110.out) | exact HB.out)) hb)
           clear HO_111001
           clear BK108
           clear BK109
           clear BK110
           clear HB
           have HO_111001 := n0_
           have BK108 := n1_
           have BK109 := n2_
           have BK110 := n3_
           have HB := n4_
           clear n0_ n1_ n2_ n3_ n4_
           (try clear hb)
           (try clear hb2)
           (try clear hk)
           (try clear hi)
           refine hK.out _ _ ⟨(blk_cell BK108.out 0).trans rfl, (blk_cell BK108.out 1).trans rfl, (blk_cell BK110.out 0).trans rfl, (blk_cell BK110.out 1).trans rfl⟩ (fun hHeld => ?_)
           clear hK K
           refine norm_ (a' := ?_) ?_ ?_
           rotate_left
           ·show Act.put _ (some 43) _ = _
            simp only [Act.put, sA,sB,sC, i64_w, i32_w]; rfl
           refine pure_ (i := 8) (N := some 44) (v := ?_) (a' := ?_) #[Y,Y,Y,Y,Y,Y,Y,Y,Y,N,N] rfl rfl (any_of HT_.out (by kernel_rfl)) (fun _ _ _ h => h) (Or.inl ⟨by rfl, ?_⟩) ?_ ?_; rotate_left
           ·intro w'; go_simp; with_reducible rfl
           rotate_left
           ·simp only [Act.put, sA,sB,sC, i64_w, i32_w]; rfl
           refine pure_ (i := 9) (N := some 45) (v := ?_) (a' := ?_) #[Y,Y,Y,Y,Y,Y,Y,Y,Y,Y,N] rfl rfl (any_of HT_.out (by kernel_rfl)) (fun _ _ _ h => h) (Or.inl ⟨by rfl, ?_⟩) ?_ ?_; rotate_left
           ·intro w'; go_simp; with_reducible rfl
           rotate_left
           ·simp only [Act.put, sA,sB,sC, i64_w, i32_w]; rfl
           refine pure_ (i := 10) (N := some 17) (v := ?_) (a' := ?_) #[Y,Y,Y,Y,Y,Y,Y,Y,Y,Y,Y] rfl rfl (any_of HT_.out (by kernel_rfl)) (fun _ _ _ h => h) (Or.inl ⟨by rfl, ?_⟩) ?_ ?_; rotate_left
           ·intro w'; go_simp; with_reducible rfl
           rotate_left
           ·simp only [Act.put, sA,sB,sC, i64_w, i32_w]; rfl
           refine done_ (done_of HT_.out (by kernel_rfl)) ?_
           have hnb59 := NB110_108.out
           have hnc59 := NB108_110.out
           have hnb60 := NB110_109.out
           have hnc60 := NB109_110.out
           have hcz61_0 : w58.cell? ⟨gb110, 0, none⟩ = some (.int .i64 ji7) := (blk_cell BK110.out 0).trans rfl
           have hcz61_1 : w58.cell? ⟨gb110, 1, none⟩ = some (.slice Ao57 x111001_1.length co57) := (blk_cell BK110.out 1).trans rfl
           have hfz61_0 := blk_frozen BK110.out 0
           have hfz61_1 := blk_frozen BK110.out 1
           try go_wp2_with (first | ((with_reducible refine gate_builtin (b := .append) (xs := #[.tmp 78, .tmp 80]) rfl ?_); at_builtin; refine Kd.R_append (Kd.int .i64) (w0 := w) w.heap.size rfl (.tmp 78) (.tmp 80) 25 3 (.int .i64 0) 8 rfl Try.underlying25 info3 rfl (by decide) (by omega) (.slice Ao57 x111001_1.length co57) x111001_1 ji53 [.int .i64 ji53] (fun _ => True) (fun _ => False) rfl rfl ?aP (fun _ hk => hk.elim) ?aF ?aO ?aB ?aS ?aL ?_; (case aP => exact rfl); (case aB => exact (by repeat (first | (with_reducible first | exact HB.out | apply below_alloc | apply pw_below_drewN | apply below_drew1 | refine below_set ?_ GE108.out | refine below_set ?_ GE109.out | refine below_set ?_ GE110.out) | exact HB.out))); (case aF => exact (fun _ _ => trivial)); (case aO => exact (by (with_reducible repeat (first | apply Kd.R_alloc | apply Kd.R_drewN | apply Kd.R_drew)); exact HO_111001.out)); (case aS => exact (below_size (by repeat (first | (with_reducible first | exact HB.out | apply below_alloc | apply pw_below_drewN | apply below_drew1 | refine below_set ?_ GE108.out | refine below_set ?_ GE109.out | refine below_set ?_ GE110.out) | exact HB.out)))); (case aL => have := LMc54.out; omega); intro v123 w62 ho hb hg hat; rw [← Ny122.out] at ho; have n0_ := Aside0.mk (blk_grown (g := gb108) (o := .cells #[.int .i64 a5_0, .slice A5_1 l5_1.length c5_1] 43 (0, 0)) (by (with_reducible repeat (first | refine blk_drewN ?_ _ | refine blk_drew ?_ | refine blk_alloc ?_ _)); exact BK108.out) hg (Kd.R_ne HO_111001.out BK108.out (by decide))); have n1_ := Aside0.mk (blk_grown (g := gb109) (o := .cells #[.int .i64 0, .slice none 0 0] 43 (0, 0)) (by (with_reducible repeat (first | refine blk_drewN ?_ _ | refine blk_drew ?_ | refine blk_alloc ?_ _)); exact BK109.out) hg (Kd.R_ne HO_111001.out BK109.out (by decide))); have n2_ := Aside0.mk (blk_grown (g := gb110) (o := .cells #[.int .i64 ji7, .slice Ao57 x111001_1.length co57] 43 (0, 0)) (by (with_reducible repeat (first | refine blk_drewN ?_ _ | refine blk_drew ?_ | refine blk_alloc ?_ _)); exact BK110.out) hg (Kd.R_ne HO_111001.out BK110.out (by decide))); have n3_ := Aside0.mk (hb); have n4_ := Aside0.mk (ho); clear BK108; clear BK109; clear BK110; clear HB; clear HO_111001; have BK108 := n0_; have BK109 := n1_; have BK110 := n2_; have HB := n3_; have HO124 := n4_; clear n0_ n1_ n2_ n3_ n4_; (try clear ho); (try clear hb); (try clear hg); (try clear hat); obtain ⟨Ao63, co63, eo63⟩ := Kd.R_slice HO124.out; subst eo63; have hcz64_0 : w62.cell? ⟨gb110, 0, none⟩ = some (.int .i64 ji7) := (blk_cell BK110.out 0).trans rfl; have hcz64_1 : w62.cell? ⟨gb110, 1, none⟩ = some (.slice Ao57 x111001_1.length co57) := (blk_cell BK110.out 1).trans rfl; have hfz64_0 := blk_frozen BK110.out 0; have hfz64_1 := blk_frozen BK110.out 1))
           go_roundg kj25
           case measure => have := HK1.out; have := HJ15.out; have := HJ25.out; omega
           case rel => exact ⟨(wrap64 (x16_1 + 1)), (y122), (.slice Ao63 y122.length co63), (by first | rfl | (simp; done) | (simp [*]; done)), H', ⟨by have := HK1.out; have := HJ15.out; have := HJ25.out; omega⟩, ⟨by (with_reducible repeat (first | apply Kd.R_alloc | apply Kd.R_drewN | apply Kd.R_drew)); exact Kd.R_mono (Kd.R_far (p := ⟨gb110, 1, none⟩) (Kd.R_types HO124.out BK110.out (by decide)) (fun _ hk => hk.2) (.slice Ao63 y122.length co63)) (fun _ hk => trivial)⟩, ⟨by (with_reducible repeat (first | refine blk_drewN ?_ _ | refine blk_drew ?_ | refine blk_alloc ?_ _)); refine blk_far ?_ NB108_110.out _; (with_reducible repeat (first | refine blk_drewN ?_ _ | refine blk_drew ?_ | refine blk_alloc ?_ _)); exact BK108.out⟩, ⟨by (with_reducible repeat (first | refine blk_drewN ?_ _ | refine blk_drew ?_ | refine blk_alloc ?_ _)); refine blk_far ?_ NB109_110.out _; (with_reducible repeat (first | refine blk_drewN ?_ _ | refine blk_drew ?_ | refine blk_alloc ?_ _)); exact BK109.out⟩, ⟨by (with_reducible repeat (first | refine blk_drewN ?_ _ | refine blk_drew ?_ | refine blk_alloc ?_ _)); refine blk_put (cs := #[.int .i64 ji7, .slice Ao57 x111001_1.length co57]) ?_ 1 _ rfl; (with_reducible repeat (first | refine blk_drewN ?_ _ | refine blk_drew ?_ | refine blk_alloc ?_ _)); exact BK110.out⟩, ⟨by repeat (first | (with_reducible first | exact HB.out | apply below_alloc | apply pw_below_drewN | apply below_drew1 | refine below_set ?_ GE108.out | refine below_set ?_ GE109.out | refine below_set ?_ GE110.out) | exact HB.out)⟩⟩
          ·rw [if_neg c54] at H
           exact absurd H (by simp)
   ·rw [if_neg c15] at H
    have c15b0 : decide (x16_1 ≤ ji8) = false := decide_eq_false c15
    clear c15
    simp only [Option.some.injEq, Prod.mk.injEq] at H
    obtain ⟨rfl, rfl⟩ := H
    have hnb65 := NB110_108.out
    have hnc65 := NB108_110.out
    have hnb66 := NB110_109.out
    have hnc66 := NB109_110.out
    have hcz67_0 : wr.cell? ⟨gb110, 0, none⟩ = some (.int .i64 ji7) := (blk_cell BK110.out 0).trans rfl
    have hcz67_1 : wr.cell? ⟨gb110, 1, none⟩ = some (u111001) := (blk_cell BK110.out 1).trans rfl
    have hfz67_0 := blk_frozen BK110.out 0
    have hfz67_1 := blk_frozen BK110.out 1
    have hnb68 := NB109_108.out
    have hnc68 := NB108_109.out
    have hcz69_0 : wr.cell? ⟨gb109, 0, none⟩ = some (.int .i64 0) := (blk_cell BK109.out 0).trans rfl
    have hcz69_1 : wr.cell? ⟨gb109, 1, none⟩ = some (.slice none 0 0) := (blk_cell BK109.out 1).trans rfl
    have hfz69_0 := blk_frozen BK109.out 0
    have hfz69_1 := blk_frozen BK109.out 1
    obtain ⟨Ao70, co70, eo70⟩ := Kd.R_slice HO_111001.out
    subst eo70
    go_wp2
    refine bodyPost_ret (results_cell_row rfl _ _ gb109 43 #[.int .i64 ji7, .slice Ao70 x111001_1.length co70] (0, 0) _ rfl (by (with_reducible repeat (first | refine blk_drewN ?_ _ | refine blk_drew ?_ | refine blk_alloc ?_ _)); refine blk_put (cs := #[.int .i64 ji7, .slice none 0 0]) ?_ 1 _ rfl; (with_reducible repeat (first | refine blk_drewN ?_ _ | refine blk_drew ?_ | refine blk_alloc ?_ _)); refine blk_put (cs := #[.int .i64 0, .slice none 0 0]) ?_ 0 _ rfl; (with_reducible repeat (first | refine blk_drewN ?_ _ | refine blk_drew ?_ | refine blk_alloc ?_ _)); exact BK109.out) Try.underlying43 rfl (by kernel_rfl)) rfl ?_
    exact ⟨_, by first | rfl | (simp [errW_none, errW_some] <;> rfl) | (simp only [← hji7, ← hji8]; first | rfl | (simp [errW_none, errW_some] <;> rfl)) | (simp [*, errW_none, errW_some] <;> rfl), by (with_reducible repeat (first | apply Kd.R_alloc | apply Kd.R_drewN | apply Kd.R_drew)); exact Kd.R_mono (Kd.R_far (p := ⟨gb109, 1, none⟩) (Kd.R_far (p := ⟨gb109, 0, none⟩) (Kd.R_types HO_111001.out BK109.out (by decide)) (fun _ hk => hk.2) (.int .i64 ji7)) (fun _ hk => hk.2) (.slice Ao70 x111001_1.length co70)) (fun _ hk => trivial), by repeat (first | (with_reducible first | exact HB.out | apply below_alloc | apply pw_below_drewN | apply below_drew1 | refine below_set ?_ GE108.out | refine below_set ?_ GE109.out | refine below_set ?_ GE110.out) | exact HB.out)⟩

end Go.Proofs.Ytcjngbpmdmfbdaa.PBandRuns
