/- What the given program's functions come to, each a Lean function and the walk that shows it: no condition beside those that each theorem names. -/
import Derived.Test.YtlodaoijokfblaaPPatchAppliesx0
namespace Go.Proofs.Ytlodaoijokfblaa.PPatchApplies
open Go.RowKit Go.Proofs.YtlodaoijokfblaaW.PrintWords Go.Proofs.YtlodaoijokfblaaW.PrintLast Go.Proofs.YtlodaoijokfblaaW.PrintMore
attribute [local go_sem] max2_int min2_int max_two min_two max_three min_three max_four min_four   -- for this text's walks alone
set_option linter.unusedVariables false
set_option linter.unusedSimpArgs false

/-! ### tattingref24_Good: function 26 -/
mutual
def tattingref24_Good.l0 : Nat → List (S28) → Int → Option (Bool)
 | 0, _, _ => none
 | k + 1, x0, x3 => if x3 < (x0.length : Int) then (if 0 ≤ x3 then (if ((rd_T28 x0 x3).f0) < 0 then (tattingref24_Good.j1 k x0 x3 true ((rd_T28 x0 x3).f0) ((rd_T28 x0 x3).f1) ((rd_T28 x0 x3).f2)) else (if ((rd_T28 x0 x3).f0) > 1048576 then (tattingref24_Good.j1 k x0 x3 true ((rd_T28 x0 x3).f0) ((rd_T28 x0 x3).f1) ((rd_T28 x0 x3).f2)) else (tattingref24_Good.j1 k x0 x3 ((wrap64 ((((rd_T28 x0 x3).f1).length : Int) + (((rd_T28 x0 x3).f2).length : Int))) == 0) ((rd_T28 x0 x3).f0) ((rd_T28 x0 x3).f1) ((rd_T28 x0 x3).f2)))) else (none)) else (some true)
def tattingref24_Good.j1 : Nat → List (S28) → Int → Bool → Int → List (List Int) → List (List Int) → Option (Bool)
 | 0, _, _, _, _, _, _ => none
 | k + 1, x0, x3, x34, x163000, x163001, x163002 => if x34 = true then (some false) else (if x3 > 0 then (if 0 ≤ (wrap64 (x3 - 1)) then (if (wrap64 (x3 - 1)) < (x0.length : Int) then (tattingref24_Good.j2 k x0 x3 (decide ((wrap64 (x163000 - ((rd_T28 x0 (wrap64 (x3 - 1))).f0))) ≤ (((rd_T28 x0 (wrap64 (x3 - 1))).f1).length : Int))) x163000 x163001 x163002) else (none)) else (none)) else (tattingref24_Good.j2 k x0 x3 false x163000 x163001 x163002))
def tattingref24_Good.j2 : Nat → List (S28) → Int → Bool → Int → List (List Int) → List (List Int) → Option (Bool)
 | 0, _, _, _, _, _, _ => none
 | k + 1, x0, x3, x55, x163000, x163001, x163002 => if x55 = true then (some false) else (tattingref24_Good.l1 k x0 x3 0 x163000 x163001 x163002)
def tattingref24_Good.l1 : Nat → List (S28) → Int → Int → Int → List (List Int) → List (List Int) → Option (Bool)
 | 0, _, _, _, _, _, _ => none
 | k + 1, x0, x3, x5, x163000, x163001, x163002 => if x5 < (x163001.length : Int) then (if 0 ≤ x5 then (if ((rd_L1 x163001 x5).length : Int) = 0 then (some false) else (tattingref24_Good.l1 k x0 x3 (wrap64 (x5 + 1)) x163000 x163001 x163002)) else (none)) else (tattingref24_Good.l2 k x0 x3 0 x163000 x163001 x163002)
def tattingref24_Good.l2 : Nat → List (S28) → Int → Int → Int → List (List Int) → List (List Int) → Option (Bool)
 | 0, _, _, _, _, _, _ => none
 | k + 1, x0, x3, x6, x163000, x163001, x163002 => if x6 < (x163002.length : Int) then (if 0 ≤ x6 then (if ((rd_L1 x163002 x6).length : Int) = 0 then (some false) else (tattingref24_Good.l2 k x0 x3 (wrap64 (x6 + 1)) x163000 x163001 x163002)) else (none)) else (tattingref24_Good.l0 k x0 (wrap64 (x3 + 1)))
end
def tattingref24_Good.f (k : Nat) (l0 : List (S28)) : Option (Bool) := tattingref24_Good.l0 k l0 0
theorem tattingref24_Good.mono_l : ∀ k, (∀ y0 y1, LeO (tattingref24_Good.l0 k y0 y1) (tattingref24_Good.l0 (k + 1) y0 y1)) ∧ (∀ y0 y1 y2 y3 y4 y5, LeO (tattingref24_Good.j1 k y0 y1 y2 y3 y4 y5) (tattingref24_Good.j1 (k + 1) y0 y1 y2 y3 y4 y5)) ∧ (∀ y0 y1 y2 y3 y4 y5, LeO (tattingref24_Good.j2 k y0 y1 y2 y3 y4 y5) (tattingref24_Good.j2 (k + 1) y0 y1 y2 y3 y4 y5)) ∧ (∀ y0 y1 y2 y3 y4 y5, LeO (tattingref24_Good.l1 k y0 y1 y2 y3 y4 y5) (tattingref24_Good.l1 (k + 1) y0 y1 y2 y3 y4 y5)) ∧ (∀ y0 y1 y2 y3 y4 y5, LeO (tattingref24_Good.l2 k y0 y1 y2 y3 y4 y5) (tattingref24_Good.l2 (k + 1) y0 y1 y2 y3 y4 y5))
 | 0 => ⟨fun _ _ r h => by simp [tattingref24_Good.l0] at h, fun _ _ _ _ _ _ r h => by simp [tattingref24_Good.j1] at h, fun _ _ _ _ _ _ r h => by simp [tattingref24_Good.j2] at h, fun _ _ _ _ _ _ r h => by simp [tattingref24_Good.l1] at h, fun _ _ _ _ _ _ r h => by simp [tattingref24_Good.l2] at h⟩
 | k + 1 => by
  obtain ⟨ih0, ih1, ih2, ih3, ih4⟩ := tattingref24_Good.mono_l k
  refine ⟨?_, ?_, ?_, ?_, ?_⟩
  ·intro y0 y1
   unfold tattingref24_Good.l0
   repeat' first
   | (with_reducible exact ih0 _ _)
   | (with_reducible exact ih1 _ _ _ _ _ _)
   | (with_reducible exact ih2 _ _ _ _ _ _)
   | (with_reducible exact ih3 _ _ _ _ _ _)
   | (with_reducible exact ih4 _ _ _ _ _ _)
   | (with_reducible exact LeO.refl _)
   | (with_reducible exact LeO.none _)
   | (with_reducible refine LeO.ite ?_ ?_)
   | (with_reducible refine LeO.bind ?_ (fun _ => ?_))
   | exact ih0 _ _
   | exact ih1 _ _ _ _ _ _
   | exact ih2 _ _ _ _ _ _
   | exact ih3 _ _ _ _ _ _
   | exact ih4 _ _ _ _ _ _
   | exact LeO.none _
   | refine LeO.ite ?_ ?_
   | refine LeO.bind ?_ (fun _ => ?_)
  ·intro y0 y1 y2 y3 y4 y5
   unfold tattingref24_Good.j1
   repeat' first
   | (with_reducible exact ih0 _ _)
   | (with_reducible exact ih1 _ _ _ _ _ _)
   | (with_reducible exact ih2 _ _ _ _ _ _)
   | (with_reducible exact ih3 _ _ _ _ _ _)
   | (with_reducible exact ih4 _ _ _ _ _ _)
   | (with_reducible exact LeO.refl _)
   | (with_reducible exact LeO.none _)
   | (with_reducible refine LeO.ite ?_ ?_)
   | (with_reducible refine LeO.bind ?_ (fun _ => ?_))
   | exact ih0 _ _
   | exact ih1 _ _ _ _ _ _
   | exact ih2 _ _ _ _ _ _
   | exact ih3 _ _ _ _ _ _
   | exact ih4 _ _ _ _ _ _
   | exact LeO.none _
   | refine LeO.ite ?_ ?_
   | refine LeO.bind ?_ (fun _ => ?_)
  ·intro y0 y1 y2 y3 y4 y5
   unfold tattingref24_Good.j2
   repeat' first
   | (with_reducible exact ih0 _ _)
   | (with_reducible exact ih1 _ _ _ _ _ _)
   | (with_reducible exact ih2 _ _ _ _ _ _)
   | (with_reducible exact ih3 _ _ _ _ _ _)
   | (with_reducible exact ih4 _ _ _ _ _ _)
   | (with_reducible exact LeO.refl _)
   | (with_reducible exact LeO.none _)
   | (with_reducible refine LeO.ite ?_ ?_)
   | (with_reducible refine LeO.bind ?_ (fun _ => ?_))
   | exact ih0 _ _
   | exact ih1 _ _ _ _ _ _
   | exact ih2 _ _ _ _ _ _
   | exact ih3 _ _ _ _ _ _
   | exact ih4 _ _ _ _ _ _
   | exact LeO.none _
   | refine LeO.ite ?_ ?_
   | refine LeO.bind ?_ (fun _ => ?_)
  ·intro y0 y1 y2 y3 y4 y5
   unfold tattingref24_Good.l1
   repeat' first
   | (with_reducible exact ih0 _ _)
   | (with_reducible exact ih1 _ _ _ _ _ _)
   | (with_reducible exact ih2 _ _ _ _ _ _)
   | (with_reducible exact ih3 _ _ _ _ _ _)
   | (with_reducible exact ih4 _ _ _ _ _ _)
   | (with_reducible exact LeO.refl _)
   | (with_reducible exact LeO.none _)
   | (with_reducible refine LeO.ite ?_ ?_)
   | (with_reducible refine LeO.bind ?_ (fun _ => ?_))
   | exact ih0 _ _
   | exact ih1 _ _ _ _ _ _
   | exact ih2 _ _ _ _ _ _
   | exact ih3 _ _ _ _ _ _
   | exact ih4 _ _ _ _ _ _
   | exact LeO.none _
   | refine LeO.ite ?_ ?_
   | refine LeO.bind ?_ (fun _ => ?_)
  ·intro y0 y1 y2 y3 y4 y5
   unfold tattingref24_Good.l2
   repeat' first
   | (with_reducible exact ih0 _ _)
   | (with_reducible exact ih1 _ _ _ _ _ _)
   | (with_reducible exact ih2 _ _ _ _ _ _)
   | (with_reducible exact ih3 _ _ _ _ _ _)
   | (with_reducible exact ih4 _ _ _ _ _ _)
   | (with_reducible exact LeO.refl _)
   | (with_reducible exact LeO.none _)
   | (with_reducible refine LeO.ite ?_ ?_)
   | (with_reducible refine LeO.bind ?_ (fun _ => ?_))
   | exact ih0 _ _
   | exact ih1 _ _ _ _ _ _
   | exact ih2 _ _ _ _ _ _
   | exact ih3 _ _ _ _ _ _
   | exact ih4 _ _ _ _ _ _
   | exact LeO.none _
   | refine LeO.ite ?_ ?_
   | refine LeO.bind ?_ (fun _ => ?_)
theorem tattingref24_Good.mono : ∀ a0 k, LeO (tattingref24_Good.f k a0) (tattingref24_Good.f (k + 1) a0) := by
 intro a0 k
 obtain ⟨ih0, ih1, ih2, ih3, ih4⟩ := tattingref24_Good.mono_l k
 unfold tattingref24_Good.f
 repeat' first
   | (with_reducible exact ih0 _ _)
   | (with_reducible exact ih1 _ _ _ _ _ _)
   | (with_reducible exact ih2 _ _ _ _ _ _)
   | (with_reducible exact ih3 _ _ _ _ _ _)
   | (with_reducible exact ih4 _ _ _ _ _ _)
   | (with_reducible exact LeO.refl _)
   | (with_reducible exact LeO.none _)
   | (with_reducible refine LeO.ite ?_ ?_)
   | (with_reducible refine LeO.bind ?_ (fun _ => ?_))
   | exact ih0 _ _
   | exact ih1 _ _ _ _ _ _
   | exact ih2 _ _ _ _ _ _
   | exact ih3 _ _ _ _ _ _
   | exact ih4 _ _ _ _ _ _
   | exact LeO.none _
   | refine LeO.ite ?_ ?_
   | refine LeO.bind ?_ (fun _ => ?_)
set_option maxHeartbeats 8000000 in
set_option maxRecDepth 100000 in
theorem tattingref24_Good.calls (k : Nat) (A0 : Option Addr) (c0 : Nat) (l0 : List (S28)) (r : Bool) (w : World) (hr0 : Kd.C k28 w A0 l0.length l0) (hc0 : l0.length ≤ c0) (h : tattingref24_Good.f k l0 = some r) :
  Calls Try.prog 26 #[.slice A0 l0.length c0] w fun e w' => e = .returned (.bool r) ∧ Below w.heap.size w w' := by
 have hu28 := Try.underlying28
 have HR0 := Aside0.mk hr0
 have HC0 := Aside0.mk hc0
 clear hr0 hc0
 have HB := Aside0.mk (Below.refl w.heap.size w)
 have H : (tattingref24_Good.l0 k l0 0) = some r := h
 clear h
 have H' := Aside0.mk H
 clear H
 go_enter Try.func26, Try.ntmps26
 try dsimp only [List.append]
 go_wp2
 repeat (go_quiet (fail); try go_wp2)
 go_loopg [3] k (fun kq v3 w' => ∃ (x3_1 : Int), v3 = .int .i64 x3_1 ∧ Aside0 (tattingref24_Good.l0 kq l0 x3_1 = some r) ∧ Aside0 (kq ≤ k) ∧ Aside0 (Below w.heap.size w w'))
 case atStart => exact ⟨(0), (by first | rfl | (simp; done) | (simp [*]; done)), H', ⟨Nat.le_refl _⟩, ⟨by repeat (first | (with_reducible first | exact HB.out | apply below_alloc | apply pw_below_drewN | apply below_drew1) | exact HB.out)⟩⟩
 case round =>
  clear H'
  obtain ⟨x3_1, rfl, HA, HK1, HB⟩ := hrel
  cases gk with
  | zero => exact absurd HA.out (by simp [tattingref24_Good.l0])
  | succ k1 =>
   have H := HA.out
   clear HA
   simp only [tattingref24_Good.l0] at H
   by_cases c2 : x3_1 < (l0.length : Int)
   ·rw [if_pos c2] at H
    have c2b0 : decide (x3_1 < (l0.length : Int)) = true := decide_eq_true c2
    clear c2
    by_cases c3 : 0 ≤ x3_1
    ·rw [if_pos c3] at H
     have c3b0 : decide (0 ≤ x3_1) = true := decide_eq_true c3
     clear c3
     have HC4 := Aside0.mk H
     clear H
     have p161 : 0 ≤ (x3_1 : Int) := of_decide_eq_true (by first | (with_reducible assumption) | assumption)
     have q161 : x3_1 < (l0.length : Int) := of_decide_eq_true (by first | (with_reducible assumption) | assumption)
     obtain ⟨ad161, A161_1, c161_1, A161_2, c161_2, e161, hx161_0, hx161_1, hx161_2, hl161_1, hi161_1, hl161_2, hi161_2⟩ := at_T28 HR0.out x3_1 p161 q161
     cases e161
     replace hx161_0 := (HB.out.cell (World.block_lt_of_cell? w _ hx161_0)).trans hx161_0
     replace hx161_1 := (HB.out.cell (World.block_lt_of_cell? w _ hx161_1)).trans hx161_1
     replace hx161_2 := (HB.out.cell (World.block_lt_of_cell? w _ hx161_2)).trans hx161_2
     have HR161_1 := Aside0.mk hi161_1
     have HC161_1 := Aside0.mk hl161_1
     clear hi161_1 hl161_1
     have HR161_2 := Aside0.mk hi161_2
     have HC161_2 := Aside0.mk hl161_2
     clear hi161_2 hl161_2
     replace p161 := eq_true p161
     replace q161 := eq_true q161
     go_upto_region 5 with (first | ((with_reducible refine gate_dst (N := 4) rfl ?_); (try (refine gate_guard (by rfl) ?_; dsimp only)); refine box_event ?hg (N := 4) ?hd (cs := #[.int .i64 0, .slice none 0 0, .slice none 0 0]) (t := 28) ?hr ?_; (case hd => rfl); (case hg => rfl); (case hr => first | (go_simp; done) | (go_simp; rfl)); intro gb162 hg w5 hbox hb; have n0_ := Aside0.mk (below_step (by repeat (first | (with_reducible first | exact HB.out | apply below_alloc | apply pw_below_drewN | apply below_drew1) | exact HB.out)) hb); have n1_ := Aside0.mk (hbox); have n2_ := Aside0.mk ((by rw [hg]; exact (below_size (by repeat (first | (with_reducible first | exact HB.out | apply below_alloc | apply pw_below_drewN | apply below_drew1) | exact HB.out))) : w.heap.size ≤ gb162)); have n3_ := Aside0.mk ((by rw [hg]; exact (below_size (by repeat (first | (with_reducible first | exact HB.out | apply below_alloc | apply pw_below_drewN | apply below_drew1) | exact HB.out))) : w.heap.size ≤ gb162)); clear HB; have HB := n0_; have BK162 := n1_; have GW162 := n2_; have GE162 := n3_; clear n0_ n1_ n2_ n3_; (try clear hb); (try clear hbox); (try clear hg); have hcz6_0 : w5.cell? ⟨gb162, 0, none⟩ = some (.int .i64 0) := (blk_cell BK162.out 0).trans rfl; have hcz6_1 : w5.cell? ⟨gb162, 1, none⟩ = some (.slice none 0 0) := (blk_cell BK162.out 1).trans rfl; have hcz6_2 : w5.cell? ⟨gb162, 2, none⟩ = some (.slice none 0 0) := (blk_cell BK162.out 2).trans rfl; have hfz6_0 := blk_frozen BK162.out 0; have hfz6_1 := blk_frozen BK162.out 1; have hfz6_2 := blk_frozen BK162.out 2))
     repeat (go_quiet (first | ((with_reducible refine gate_dst (N := 4) rfl ?_); (try (refine gate_guard (by rfl) ?_; dsimp only)); refine box_event ?hg (N := 4) ?hd (cs := #[.int .i64 0, .slice none 0 0, .slice none 0 0]) (t := 28) ?hr ?_; (case hd => rfl); (case hg => rfl); (case hr => first | (go_simp; done) | (go_simp; rfl)); intro gb162 hg w5 hbox hb; have n0_ := Aside0.mk (below_step (by repeat (first | (with_reducible first | exact HB.out | apply below_alloc | apply pw_below_drewN | apply below_drew1) | exact HB.out)) hb); have n1_ := Aside0.mk (hbox); have n2_ := Aside0.mk ((by rw [hg]; exact (below_size (by repeat (first | (with_reducible first | exact HB.out | apply below_alloc | apply pw_below_drewN | apply below_drew1) | exact HB.out))) : w.heap.size ≤ gb162)); have n3_ := Aside0.mk ((by rw [hg]; exact (below_size (by repeat (first | (with_reducible first | exact HB.out | apply below_alloc | apply pw_below_drewN | apply below_drew1) | exact HB.out))) : w.heap.size ≤ gb162)); clear HB; have HB := n0_; have BK162 := n1_; have GW162 := n2_; have GE162 := n3_; clear n0_ n1_ n2_ n3_; (try clear hb); (try clear hbox); (try clear hg); have hcz6_0 : w5.cell? ⟨gb162, 0, none⟩ = some (.int .i64 0) := (blk_cell BK162.out 0).trans rfl; have hcz6_1 : w5.cell? ⟨gb162, 1, none⟩ = some (.slice none 0 0) := (blk_cell BK162.out 1).trans rfl; have hcz6_2 : w5.cell? ⟨gb162, 2, none⟩ = some (.slice none 0 0) := (blk_cell BK162.out 2).trans rfl; have hfz6_0 := blk_frozen BK162.out 0; have hfz6_1 := blk_frozen BK162.out 1; have hfz6_2 := blk_frozen BK162.out 2)); go_upto_region 5 with (first | ((with_reducible refine gate_dst (N := 4) rfl ?_); (try (refine gate_guard (by rfl) ?_; dsimp only)); refine box_event ?hg (N := 4) ?hd (cs := #[.int .i64 0, .slice none 0 0, .slice none 0 0]) (t := 28) ?hr ?_; (case hd => rfl); (case hg => rfl); (case hr => first | (go_simp; done) | (go_simp; rfl)); intro gb162 hg w5 hbox hb; have n0_ := Aside0.mk (below_step (by repeat (first | (with_reducible first | exact HB.out | apply below_alloc | apply pw_below_drewN | apply below_drew1) | exact HB.out)) hb); have n1_ := Aside0.mk (hbox); have n2_ := Aside0.mk ((by rw [hg]; exact (below_size (by repeat (first | (with_reducible first | exact HB.out | apply below_alloc | apply pw_below_drewN | apply below_drew1) | exact HB.out))) : w.heap.size ≤ gb162)); have n3_ := Aside0.mk ((by rw [hg]; exact (below_size (by repeat (first | (with_reducible first | exact HB.out | apply below_alloc | apply pw_below_drewN | apply below_drew1) | exact HB.out))) : w.heap.size ≤ gb162)); clear HB; have HB := n0_; have BK162 := n1_; have GW162 := n2_; have GE162 := n3_; clear n0_ n1_ n2_ n3_; (try clear hb); (try clear hbox); (try clear hg); have hcz6_0 : w5.cell? ⟨gb162, 0, none⟩ = some (.int .i64 0) := (blk_cell BK162.out 0).trans rfl; have hcz6_1 : w5.cell? ⟨gb162, 1, none⟩ = some (.slice none 0 0) := (blk_cell BK162.out 1).trans rfl; have hcz6_2 : w5.cell? ⟨gb162, 2, none⟩ = some (.slice none 0 0) := (blk_cell BK162.out 2).trans rfl; have hfz6_0 := blk_frozen BK162.out 0; have hfz6_1 := blk_frozen BK162.out 1; have hfz6_2 := blk_frozen BK162.out 2)))
     (try simp only [Act.put, sA,sB,sC])
     go_cut [34] (fun v34 wc => ∃ (kq : Nat) (x34_3 : Bool), v34 = .bool x34_3 ∧ Aside0 (tattingref24_Good.j1 kq l0 x3_1 x34_3 ((rd_T28 l0 x3_1).f0) ((rd_T28 l0 x3_1).f1) ((rd_T28 l0 x3_1).f2) = some r) ∧ Aside0 (kq ≤ k1) ∧ Aside0 (wc.heap[gb162]? = some (.cells #[.int .i64 ((rd_T28 l0 x3_1).f0), (.slice A161_1 ((rd_T28 l0 x3_1).f1).length c161_1), (.slice A161_2 ((rd_T28 l0 x3_1).f2).length c161_2)] 28 (0, 0))) ∧ Aside0 (Below w.heap.size w wc))
     case first =>
      have H := HC4.out
      clear HC4
      by_cases c7 : ((rd_T28 l0 x3_1).f0) < 0
      ·rw [if_pos c7] at H
       have c7b0 : decide (((rd_T28 l0 x3_1).f0) < 0) = true := decide_eq_true c7
       clear c7
       (first | rw [c7b0] | (simp only [i64_w, i32_w]; rw [c7b0]) | skip)
       have H' := Aside0.mk H
       clear H
       have hcz8_0 : w5.cell? ⟨gb162, 0, none⟩ = some (.int .i64 0) := (blk_cell BK162.out 0).trans rfl
       have hcz8_1 : w5.cell? ⟨gb162, 1, none⟩ = some (.slice none 0 0) := (blk_cell BK162.out 1).trans rfl
       have hcz8_2 : w5.cell? ⟨gb162, 2, none⟩ = some (.slice none 0 0) := (blk_cell BK162.out 2).trans rfl
       have hfz8_0 := blk_frozen BK162.out 0
       have hfz8_1 := blk_frozen BK162.out 1
       have hfz8_2 := blk_frozen BK162.out 2
       go_wp2
       repeat (go_quiet (fail); try go_wp2)
       go_meet
       case rel => exact ⟨_, (true), (by first | rfl | (simp; done) | (simp [*]; done)), H', ⟨by have := HK1.out; first | omega | exact Nat.le_refl _⟩, ⟨by (with_reducible repeat (first | refine blk_drewN ?_ _ | refine blk_drew ?_ | refine blk_alloc ?_ _)); refine blk_put (cs := #[.int .i64 ((rd_T28 l0 x3_1).f0), .slice A161_1 ((rd_T28 l0 x3_1).f1).length c161_1, .slice none 0 0]) ?_ 2 _ rfl; (with_reducible repeat (first | refine blk_drewN ?_ _ | refine blk_drew ?_ | refine blk_alloc ?_ _)); refine blk_put (cs := #[.int .i64 ((rd_T28 l0 x3_1).f0), .slice none 0 0, .slice none 0 0]) ?_ 1 _ rfl; (with_reducible repeat (first | refine blk_drewN ?_ _ | refine blk_drew ?_ | refine blk_alloc ?_ _)); refine blk_put (cs := #[.int .i64 0, .slice none 0 0, .slice none 0 0]) ?_ 0 _ rfl; (with_reducible repeat (first | refine blk_drewN ?_ _ | refine blk_drew ?_ | refine blk_alloc ?_ _)); exact BK162.out⟩, ⟨by repeat (first | (with_reducible first | exact HB.out | apply below_alloc | apply pw_below_drewN | apply below_drew1 | refine below_set ?_ GE162.out) | exact HB.out)⟩⟩
      ·rw [if_neg c7] at H
       have c7b0 : decide (((rd_T28 l0 x3_1).f0) < 0) = false := decide_eq_false c7
       clear c7
       (first | rw [c7b0] | (simp only [i64_w, i32_w]; rw [c7b0]) | skip)
       by_cases c9 : ((rd_T28 l0 x3_1).f0) > 1048576
       ·rw [if_pos c9] at H
        have c9b0 : decide (1048576 < ((rd_T28 l0 x3_1).f0)) = true := decide_eq_true c9
        clear c9
        have H' := Aside0.mk H
        clear H
        have hcz10_0 : w5.cell? ⟨gb162, 0, none⟩ = some (.int .i64 0) := (blk_cell BK162.out 0).trans rfl
        have hcz10_1 : w5.cell? ⟨gb162, 1, none⟩ = some (.slice none 0 0) := (blk_cell BK162.out 1).trans rfl
        have hcz10_2 : w5.cell? ⟨gb162, 2, none⟩ = some (.slice none 0 0) := (blk_cell BK162.out 2).trans rfl
        have hfz10_0 := blk_frozen BK162.out 0
        have hfz10_1 := blk_frozen BK162.out 1
        have hfz10_2 := blk_frozen BK162.out 2
        go_wp2
        repeat (go_quiet (fail); try go_wp2)
        go_meet
        case rel => exact ⟨_, (true), (by first | rfl | (simp; done) | (simp [*]; done)), H', ⟨by have := HK1.out; first | omega | exact Nat.le_refl _⟩, ⟨by (with_reducible repeat (first | refine blk_drewN ?_ _ | refine blk_drew ?_ | refine blk_alloc ?_ _)); refine blk_put (cs := #[.int .i64 ((rd_T28 l0 x3_1).f0), .slice A161_1 ((rd_T28 l0 x3_1).f1).length c161_1, .slice none 0 0]) ?_ 2 _ rfl; (with_reducible repeat (first | refine blk_drewN ?_ _ | refine blk_drew ?_ | refine blk_alloc ?_ _)); refine blk_put (cs := #[.int .i64 ((rd_T28 l0 x3_1).f0), .slice none 0 0, .slice none 0 0]) ?_ 1 _ rfl; (with_reducible repeat (first | refine blk_drewN ?_ _ | refine blk_drew ?_ | refine blk_alloc ?_ _)); refine blk_put (cs := #[.int .i64 0, .slice none 0 0, .slice none 0 0]) ?_ 0 _ rfl; (with_reducible repeat (first | refine blk_drewN ?_ _ | refine blk_drew ?_ | refine blk_alloc ?_ _)); exact BK162.out⟩, ⟨by repeat (first | (with_reducible first | exact HB.out | apply below_alloc | apply pw_below_drewN | apply below_drew1 | refine below_set ?_ GE162.out) | exact HB.out)⟩⟩
       ·rw [if_neg c9] at H
        have c9b0 : decide (1048576 < ((rd_T28 l0 x3_1).f0)) = false := decide_eq_false c9
        clear c9
        have H' := Aside0.mk H
        clear H
        have hcz11_0 : w5.cell? ⟨gb162, 0, none⟩ = some (.int .i64 0) := (blk_cell BK162.out 0).trans rfl
        have hcz11_1 : w5.cell? ⟨gb162, 1, none⟩ = some (.slice none 0 0) := (blk_cell BK162.out 1).trans rfl
        have hcz11_2 : w5.cell? ⟨gb162, 2, none⟩ = some (.slice none 0 0) := (blk_cell BK162.out 2).trans rfl
        have hfz11_0 := blk_frozen BK162.out 0
        have hfz11_1 := blk_frozen BK162.out 1
        have hfz11_2 := blk_frozen BK162.out 2
        go_wp2
        repeat (go_quiet (fail); try go_wp2)
        go_meet
        case rel => exact ⟨_, (((wrap64 ((((rd_T28 l0 x3_1).f1).length : Int) + (((rd_T28 l0 x3_1).f2).length : Int))) == 0)), (by first | rfl | (simp; done) | (simp [*]; done)), H', ⟨by have := HK1.out; first | omega | exact Nat.le_refl _⟩, ⟨by (with_reducible repeat (first | refine blk_drewN ?_ _ | refine blk_drew ?_ | refine blk_alloc ?_ _)); refine blk_put (cs := #[.int .i64 ((rd_T28 l0 x3_1).f0), .slice A161_1 ((rd_T28 l0 x3_1).f1).length c161_1, .slice none 0 0]) ?_ 2 _ rfl; (with_reducible repeat (first | refine blk_drewN ?_ _ | refine blk_drew ?_ | refine blk_alloc ?_ _)); refine blk_put (cs := #[.int .i64 ((rd_T28 l0 x3_1).f0), .slice none 0 0, .slice none 0 0]) ?_ 1 _ rfl; (with_reducible repeat (first | refine blk_drewN ?_ _ | refine blk_drew ?_ | refine blk_alloc ?_ _)); refine blk_put (cs := #[.int .i64 0, .slice none 0 0, .slice none 0 0]) ?_ 0 _ rfl; (with_reducible repeat (first | refine blk_drewN ?_ _ | refine blk_drew ?_ | refine blk_alloc ?_ _)); exact BK162.out⟩, ⟨by repeat (first | (with_reducible first | exact HB.out | apply below_alloc | apply pw_below_drewN | apply below_drew1 | refine below_set ?_ GE162.out) | exact HB.out)⟩⟩
     case rest =>
      clear HC4
      try clear c1
      try clear p1
      try clear q1
      try clear hx1
      try clear c2
      try clear c2b0
      try clear p2
      try clear c3
      try clear c3b0
      try clear p6
      try clear c7
      try clear c7b0
      try clear c9
      try clear c9b0
      try clear hcz10_0
      try clear hcz10_1
      try clear hcz10_2
      try clear hcz11_0
      try clear hcz11_1
      try clear hcz11_2
      try clear hcz6_0
      try clear hcz6_1
      try clear hcz6_2
      try clear hcz8_0
      try clear hcz8_1
      try clear hcz8_2
      try clear hfz10_0
      try clear hfz10_1
      try clear hfz10_2
      try clear hfz11_0
      try clear hfz11_1
      try clear hfz11_2
      try clear hfz6_0
      try clear hfz6_1
      try clear hfz6_2
      try clear hfz8_0
      try clear hfz8_1
      try clear hfz8_2
      try clear hx161_0
      try clear hx161_1
      try clear hx161_2
      try clear p161
      try clear q161
      obtain ⟨kq, x34_3, rfl, HA, HJ3, BK162, HB⟩ := hcut
      cases kq with
      | zero => exact absurd HA.out (by simp [tattingref24_Good.j1])
      | succ kj3 =>
       have H := HA.out
       clear HA
       simp only [tattingref24_Good.j1] at H
       by_cases c12 : x34_3 = true
       ·subst c12
        have H1 : (some false) = some r := by rw [if_pos rfl] at H; exact H
        clear H
        have H := H1
        clear H1
        obtain rfl := Option.some.inj H
        go_wp2
        repeat (go_quiet (fail); try go_wp2)
        go_ret
        exact ⟨by first | rfl | (simp [errW_none, errW_some] <;> rfl) | (simp [*, errW_none, errW_some] <;> rfl), by repeat (first | (with_reducible first | exact HB.out | apply below_alloc | apply pw_below_drewN | apply below_drew1 | refine below_set ?_ GE162.out) | exact HB.out)⟩
       ·replace c12 := Bool.eq_false_iff.mpr c12
        subst c12
        have H1 : (if x3_1 > 0 then (if 0 ≤ (wrap64 (x3_1 - 1)) then (if (wrap64 (x3_1 - 1)) < (l0.length : Int) then (tattingref24_Good.j2 kj3 l0 x3_1 (decide ((wrap64 (((rd_T28 l0 x3_1).f0) - ((rd_T28 l0 (wrap64 (x3_1 - 1))).f0))) ≤ (((rd_T28 l0 (wrap64 (x3_1 - 1))).f1).length : Int))) ((rd_T28 l0 x3_1).f0) ((rd_T28 l0 x3_1).f1) ((rd_T28 l0 x3_1).f2)) else (none)) else (none)) else (tattingref24_Good.j2 kj3 l0 x3_1 false ((rd_T28 l0 x3_1).f0) ((rd_T28 l0 x3_1).f1) ((rd_T28 l0 x3_1).f2))) = some r := by rw [if_neg (show ¬ (false = true) by decide)] at H; exact H
        clear H
        have H := H1
        clear H1
        have HC13 := Aside0.mk H
        clear H
        go_upto_region 7 with (fail)
        repeat (go_quiet (fail); go_upto_region 7 with (fail))
        go_cut [55] (fun v55 wc => ∃ (kq : Nat) (x55_12 : Bool), v55 = .bool x55_12 ∧ Aside0 (tattingref24_Good.j2 kq l0 x3_1 x55_12 ((rd_T28 l0 x3_1).f0) ((rd_T28 l0 x3_1).f1) ((rd_T28 l0 x3_1).f2) = some r) ∧ Aside0 (kq ≤ kj3) ∧ Aside0 (wc.heap[gb162]? = some (.cells #[.int .i64 ((rd_T28 l0 x3_1).f0), (.slice A161_1 ((rd_T28 l0 x3_1).f1).length c161_1), (.slice A161_2 ((rd_T28 l0 x3_1).f2).length c161_2)] 28 (0, 0))) ∧ Aside0 (Below w.heap.size w wc))
        case first =>
         have H := HC13.out
         clear HC13
         by_cases c14 : x3_1 > 0
         ·rw [if_pos c14] at H
          have c14b0 : decide (0 < x3_1) = true := decide_eq_true c14
          clear c14
          (first | rw [c14b0] | (simp only [i64_w, i32_w]; rw [c14b0]) | skip)
          obtain ⟨ji15, hji15⟩ : ∃ j_ : Int, (wrap64 (x3_1 - 1)) = j_ := ⟨_, rfl⟩
          replace H : (if 0 ≤ (ji15) then (if (ji15) < (l0.length : Int) then (tattingref24_Good.j2 kj3 l0 x3_1 (decide ((wrap64 (((rd_T28 l0 x3_1).f0) - ((rd_T28 l0 (ji15)).f0))) ≤ (((rd_T28 l0 (ji15)).f1).length : Int))) ((rd_T28 l0 x3_1).f0) ((rd_T28 l0 x3_1).f1) ((rd_T28 l0 x3_1).f2)) else (none)) else (none)) = some r := by first | (rw [hji15] at H; exact H) | (simp only [hji15] at H ⊢; exact H)
          have hji15w : (IntKind.i64.wrap (x3_1 - 1)) = ji15 := (i64_w _).trans hji15
          by_cases c16 : 0 ≤ (ji15)
          ·rw [if_pos c16] at H
           have c16b0 : decide (0 ≤ (ji15)) = true := decide_eq_true c16
           clear c16
           by_cases c17 : (ji15) < (l0.length : Int)
           ·rw [if_pos c17] at H
            have c17b0 : decide ((ji15) < (l0.length : Int)) = true := decide_eq_true c17
            clear c17
            have H' := Aside0.mk H
            clear H
            have hcz18_0 : wc.cell? ⟨gb162, 0, none⟩ = some (.int .i64 ((rd_T28 l0 x3_1).f0)) := (blk_cell BK162.out 0).trans rfl
            have hcz18_1 : wc.cell? ⟨gb162, 1, none⟩ = some (.slice A161_1 ((rd_T28 l0 x3_1).f1).length c161_1) := (blk_cell BK162.out 1).trans rfl
            have hcz18_2 : wc.cell? ⟨gb162, 2, none⟩ = some (.slice A161_2 ((rd_T28 l0 x3_1).f2).length c161_2) := (blk_cell BK162.out 2).trans rfl
            have hfz18_0 := blk_frozen BK162.out 0
            have hfz18_1 := blk_frozen BK162.out 1
            have hfz18_2 := blk_frozen BK162.out 2
            have p163 : 0 ≤ ((ji15) : Int) := of_decide_eq_true (by first | (with_reducible assumption) | assumption)
            have q163 : (ji15) < (l0.length : Int) := of_decide_eq_true (by first | (with_reducible assumption) | assumption)
            obtain ⟨ad163, A163_1, c163_1, A163_2, c163_2, e163, hx163_0, hx163_1, hx163_2, hl163_1, hi163_1, hl163_2, hi163_2⟩ := at_T28 HR0.out (ji15) p163 q163
            obtain rfl : ad161 = ad163 := (by injection e163)
            replace hx163_0 := (HB.out.cell (World.block_lt_of_cell? w _ hx163_0)).trans hx163_0
            replace hx163_1 := (HB.out.cell (World.block_lt_of_cell? w _ hx163_1)).trans hx163_1
            replace hx163_2 := (HB.out.cell (World.block_lt_of_cell? w _ hx163_2)).trans hx163_2
            have HR163_1 := Aside0.mk hi163_1
            have HC163_1 := Aside0.mk hl163_1
            clear hi163_1 hl163_1
            have HR163_2 := Aside0.mk hi163_2
            have HC163_2 := Aside0.mk hl163_2
            clear hi163_2 hl163_2
            replace p163 := eq_true p163
            replace q163 := eq_true q163
            have p164 : 0 ≤ ((ji15) : Int) := of_decide_eq_true (by first | (with_reducible assumption) | assumption)
            have q164 : (ji15) < (l0.length : Int) := of_decide_eq_true (by first | (with_reducible assumption) | assumption)
            obtain ⟨ad164, A164_1, c164_1, A164_2, c164_2, e164, hx164_0, hx164_1, hx164_2, hl164_1, hi164_1, hl164_2, hi164_2⟩ := at_T28 HR0.out (ji15) p164 q164
            obtain rfl : ad161 = ad164 := (by injection e164)
            replace hx164_0 := (HB.out.cell (World.block_lt_of_cell? w _ hx164_0)).trans hx164_0
            replace hx164_1 := (HB.out.cell (World.block_lt_of_cell? w _ hx164_1)).trans hx164_1
            replace hx164_2 := (HB.out.cell (World.block_lt_of_cell? w _ hx164_2)).trans hx164_2
            have HR164_1 := Aside0.mk hi164_1
            have HC164_1 := Aside0.mk hl164_1
            clear hi164_1 hl164_1
            have HR164_2 := Aside0.mk hi164_2
            have HC164_2 := Aside0.mk hl164_2
            clear hi164_2 hl164_2
            replace p164 := eq_true p164
            replace q164 := eq_true q164
            have ea_ := Option.some.inj (hx163_1.symm.trans hx164_1)
            injection ea_ with ea_ en_ ec_
            subst ea_
            subst ec_
            clear en_
            have ea_ := Option.some.inj (hx163_2.symm.trans hx164_2)
            injection ea_ with ea_ en_ ec_
            subst ea_
            subst ec_
            clear en_
            go_wp2
            repeat (go_quiet (fail); try go_wp2)
            go_meet
            case rel => exact ⟨_, (decide ((wrap64 (((rd_T28 l0 x3_1).f0) - ((rd_T28 l0 (ji15)).f0))) ≤ (((rd_T28 l0 (ji15)).f1).length : Int))), (by first | rfl | (simp; done) | (simp only [← hji15] <;> (first | rfl | simp)) | (simp [*]; done)), H', ⟨by have := HK1.out; have := HJ3.out; first | omega | exact Nat.le_refl _⟩, ⟨by (with_reducible repeat (first | refine blk_drewN ?_ _ | refine blk_drew ?_ | refine blk_alloc ?_ _)); exact BK162.out⟩, ⟨by repeat (first | (with_reducible first | exact HB.out | apply below_alloc | apply pw_below_drewN | apply below_drew1 | refine below_set ?_ GE162.out) | exact HB.out)⟩⟩
           ·rw [if_neg c17] at H
            exact absurd H (by simp)
          ·rw [if_neg c16] at H
           exact absurd H (by simp)
         ·rw [if_neg c14] at H
          have c14b0 : decide (0 < x3_1) = false := decide_eq_false c14
          clear c14
          (first | rw [c14b0] | (simp only [i64_w, i32_w]; rw [c14b0]) | skip)
          have H' := Aside0.mk H
          clear H
          go_wp2
          repeat (go_quiet (fail); try go_wp2)
          go_meet
          case rel => exact ⟨_, (false), (by first | rfl | (simp; done) | (simp [*]; done)), H', ⟨by have := HK1.out; have := HJ3.out; first | omega | exact Nat.le_refl _⟩, ⟨by (with_reducible repeat (first | refine blk_drewN ?_ _ | refine blk_drew ?_ | refine blk_alloc ?_ _)); exact BK162.out⟩, ⟨by repeat (first | (with_reducible first | exact HB.out | apply below_alloc | apply pw_below_drewN | apply below_drew1 | refine below_set ?_ GE162.out) | exact HB.out)⟩⟩
        case rest =>
         clear HC13
         try clear c1
         try clear p1
         try clear q1
         try clear hx1
         try clear c2
         try clear c2b0
         try clear p2
         try clear c3
         try clear c3b0
         try clear p6
         try clear c7
         try clear c7b0
         try clear c9
         try clear c9b0
         try clear c12
         try clear c14
         try clear c14b0
         try clear c16
         try clear c16b0
         try clear p16
         try clear q16
         try clear hx16
         try clear c17
         try clear c17b0
         try clear hcz10_0
         try clear hcz10_1
         try clear hcz10_2
         try clear hcz11_0
         try clear hcz11_1
         try clear hcz11_2
         try clear hcz18_0
         try clear hcz18_1
         try clear hcz18_2
         try clear hcz6_0
         try clear hcz6_1
         try clear hcz6_2
         try clear hcz8_0
         try clear hcz8_1
         try clear hcz8_2
         try clear hfz10_0
         try clear hfz10_1
         try clear hfz10_2
         try clear hfz11_0
         try clear hfz11_1
         try clear hfz11_2
         try clear hfz18_0
         try clear hfz18_1
         try clear hfz18_2
         try clear hfz6_0
         try clear hfz6_1
         try clear hfz6_2
         try clear hfz8_0
         try clear hfz8_1
         try clear hfz8_2
         try clear hx161_0
         try clear hx161_1
         try clear hx161_2
         try clear hx163_0
         try clear hx163_1
         try clear hx163_2
         try clear hx164_0
         try clear hx164_1
         try clear hx164_2
         try clear p1
         try clear p161
         try clear p163
         try clear p164
         try clear p2
         try clear p6
         try clear q1
         try clear q161
         try clear q163
         try clear q164
         obtain ⟨kq, x55_12, rfl, HA, HJ12, BK162, HB⟩ := hcut
         cases kq with
         | zero => exact absurd HA.out (by simp [tattingref24_Good.j2])
         | succ kj12 =>
          have H := HA.out
          clear HA
          simp only [tattingref24_Good.j2] at H
          by_cases c19 : x55_12 = true
          ·subst c19
           have H1 : (some false) = some r := by rw [if_pos rfl] at H; exact H
           clear H
           have H := H1
           clear H1
           obtain rfl := Option.some.inj H
           go_wp2
           repeat (go_quiet (fail); try go_wp2)
           go_ret
           exact ⟨by first | rfl | (simp [errW_none, errW_some] <;> rfl) | (simp [*, errW_none, errW_some] <;> rfl), by repeat (first | (with_reducible first | exact HB.out | apply below_alloc | apply pw_below_drewN | apply below_drew1 | refine below_set ?_ GE162.out) | exact HB.out)⟩
          ·replace c19 := Bool.eq_false_iff.mpr c19
           subst c19
           have H1 : (tattingref24_Good.l1 kj12 l0 x3_1 0 ((rd_T28 l0 x3_1).f0) ((rd_T28 l0 x3_1).f1) ((rd_T28 l0 x3_1).f2)) = some r := by rw [if_neg (show ¬ (false = true) by decide)] at H; exact H
           clear H
           have H := H1
           clear H1
           have H' := Aside0.mk H
           clear H
           go_wp2
           repeat (go_quiet (fail); try go_wp2)
           go_loopg [5] kj12 (fun kq v5 w' => ∃ (x5_4 : Int), v5 = .int .i64 x5_4 ∧ Aside0 (tattingref24_Good.l1 kq l0 x3_1 x5_4 ((rd_T28 l0 x3_1).f0) ((rd_T28 l0 x3_1).f1) ((rd_T28 l0 x3_1).f2) = some r) ∧ Aside0 (kq ≤ kj12) ∧ Aside0 (w'.heap[gb162]? = some (.cells #[.int .i64 ((rd_T28 l0 x3_1).f0), (.slice A161_1 ((rd_T28 l0 x3_1).f1).length c161_1), (.slice A161_2 ((rd_T28 l0 x3_1).f2).length c161_2)] 28 (0, 0))) ∧ Aside0 (Below w.heap.size w w'))
           case atStart => exact ⟨(0), (by first | rfl | (simp; done) | (simp [*]; done)), H', ⟨Nat.le_refl _⟩, ⟨by (with_reducible repeat (first | refine blk_drewN ?_ _ | refine blk_drew ?_ | refine blk_alloc ?_ _)); exact BK162.out⟩, ⟨by repeat (first | (with_reducible first | exact HB.out | apply below_alloc | apply pw_below_drewN | apply below_drew1 | refine below_set ?_ GE162.out) | exact HB.out)⟩⟩
           case round =>
            clear H'
            try clear c1
            try clear p1
            try clear q1
            try clear hx1
            try clear c2
            try clear c2b0
            try clear p2
            try clear c3
            try clear c3b0
            try clear p6
            try clear c7
            try clear c7b0
            try clear c9
            try clear c9b0
            try clear c12
            try clear c14
            try clear c14b0
            try clear c16
            try clear c16b0
            try clear p16
            try clear q16
            try clear hx16
            try clear c17
            try clear c17b0
            try clear c19
            try clear hcz10_0
            try clear hcz10_1
            try clear hcz10_2
            try clear hcz11_0
            try clear hcz11_1
            try clear hcz11_2
            try clear hcz18_0
            try clear hcz18_1
            try clear hcz18_2
            try clear hcz6_0
            try clear hcz6_1
            try clear hcz6_2
            try clear hcz8_0
            try clear hcz8_1
            try clear hcz8_2
            try clear hfz10_0
            try clear hfz10_1
            try clear hfz10_2
            try clear hfz11_0
            try clear hfz11_1
            try clear hfz11_2
            try clear hfz18_0
            try clear hfz18_1
            try clear hfz18_2
            try clear hfz6_0
            try clear hfz6_1
            try clear hfz6_2
            try clear hfz8_0
            try clear hfz8_1
            try clear hfz8_2
            try clear hx161_0
            try clear hx161_1
            try clear hx161_2
            try clear hx163_0
            try clear hx163_1
            try clear hx163_2
            try clear hx164_0
            try clear hx164_1
            try clear hx164_2
            try clear p1
            try clear p16
            try clear p161
            try clear p163
            try clear p164
            try clear p2
            try clear p6
            try clear q1
            try clear q16
            try clear q161
            try clear q163
            try clear q164
            obtain ⟨x5_4, rfl, HA, HK4, BK162, HB⟩ := hrel
            cases gk with
            | zero => exact absurd HA.out (by simp [tattingref24_Good.l1])
            | succ k4 =>
             have H := HA.out
             clear HA
             simp only [tattingref24_Good.l1] at H
             by_cases c20 : x5_4 < (((rd_T28 l0 x3_1).f1).length : Int)
             ·rw [if_pos c20] at H
              have c20b0 : decide (x5_4 < (((rd_T28 l0 x3_1).f1).length : Int)) = true := decide_eq_true c20
              clear c20
              by_cases c21 : 0 ≤ x5_4
              ·rw [if_pos c21] at H
               have c21b0 : decide (0 ≤ x5_4) = true := decide_eq_true c21
               clear c21
               by_cases c22 : ((rd_L1 ((rd_T28 l0 x3_1).f1) x5_4).length : Int) = 0
               ·rw [if_pos c22] at H
                have c22b0 : (((rd_L1 ((rd_T28 l0 x3_1).f1) x5_4).length : Int) == 0) = true := beq_iff_eq.mpr c22
                have c22b1 : (((rd_L1 ((rd_T28 l0 x3_1).f1) x5_4).length : Int) != 0) = false := bne_eq_false_iff_eq.mpr c22
                clear c22
                obtain rfl := Option.some.inj H
                have hcz23_0 : wr.cell? ⟨gb162, 0, none⟩ = some (.int .i64 ((rd_T28 l0 x3_1).f0)) := (blk_cell BK162.out 0).trans rfl
                have hcz23_1 : wr.cell? ⟨gb162, 1, none⟩ = some (.slice A161_1 ((rd_T28 l0 x3_1).f1).length c161_1) := (blk_cell BK162.out 1).trans rfl
                have hcz23_2 : wr.cell? ⟨gb162, 2, none⟩ = some (.slice A161_2 ((rd_T28 l0 x3_1).f2).length c161_2) := (blk_cell BK162.out 2).trans rfl
                have hfz23_0 := blk_frozen BK162.out 0
                have hfz23_1 := blk_frozen BK162.out 1
                have hfz23_2 := blk_frozen BK162.out 2
                have p165 : 0 ≤ (x5_4 : Int) := of_decide_eq_true (by first | (with_reducible assumption) | assumption)
                have q165 : x5_4 < (((rd_T28 l0 x3_1).f1).length : Int) := of_decide_eq_true (by first | (with_reducible assumption) | assumption)
                obtain ⟨ad165, A165_0, c165_0, e165, hx165_0, hl165_0, hi165_0⟩ := at_L1 HR161_1.out x5_4 p165 q165
                cases e165
                replace hx165_0 := (HB.out.cell (World.block_lt_of_cell? w _ hx165_0)).trans hx165_0
                have HR165_0 := Aside0.mk hi165_0
                have HC165_0 := Aside0.mk hl165_0
                clear hi165_0 hl165_0
                replace p165 := eq_true p165
                replace q165 := eq_true q165
                go_wp2
                repeat (go_quiet (fail); try go_wp2)
                go_ret
                exact ⟨by first | rfl | (simp [errW_none, errW_some] <;> rfl) | (simp [*, errW_none, errW_some] <;> rfl), by repeat (first | (with_reducible first | exact HB.out | apply below_alloc | apply pw_below_drewN | apply below_drew1 | refine below_set ?_ GE162.out) | exact HB.out)⟩
               ·rw [if_neg c22] at H
                have c22b0 : (((rd_L1 ((rd_T28 l0 x3_1).f1) x5_4).length : Int) == 0) = false := beq_eq_false_iff_ne.mpr c22
                have c22b1 : (((rd_L1 ((rd_T28 l0 x3_1).f1) x5_4).length : Int) != 0) = true := bne_iff_ne.mpr c22
                have c22b2 : ¬ ((rd_L1 ((rd_T28 l0 x3_1).f1) x5_4) = []) := fun h_ => c22 (by rw [h_]; rfl)
                have H' := Aside0.mk H
                clear H
                have hcz24_0 : wr.cell? ⟨gb162, 0, none⟩ = some (.int .i64 ((rd_T28 l0 x3_1).f0)) := (blk_cell BK162.out 0).trans rfl
                have hcz24_1 : wr.cell? ⟨gb162, 1, none⟩ = some (.slice A161_1 ((rd_T28 l0 x3_1).f1).length c161_1) := (blk_cell BK162.out 1).trans rfl
                have hcz24_2 : wr.cell? ⟨gb162, 2, none⟩ = some (.slice A161_2 ((rd_T28 l0 x3_1).f2).length c161_2) := (blk_cell BK162.out 2).trans rfl
                have hfz24_0 := blk_frozen BK162.out 0
                have hfz24_1 := blk_frozen BK162.out 1
                have hfz24_2 := blk_frozen BK162.out 2
                have p165 : 0 ≤ (x5_4 : Int) := of_decide_eq_true (by first | (with_reducible assumption) | assumption)
                have q165 : x5_4 < (((rd_T28 l0 x3_1).f1).length : Int) := of_decide_eq_true (by first | (with_reducible assumption) | assumption)
                obtain ⟨ad165, A165_0, c165_0, e165, hx165_0, hl165_0, hi165_0⟩ := at_L1 HR161_1.out x5_4 p165 q165
                cases e165
                replace hx165_0 := (HB.out.cell (World.block_lt_of_cell? w _ hx165_0)).trans hx165_0
                have HR165_0 := Aside0.mk hi165_0
                have HC165_0 := Aside0.mk hl165_0
                clear hi165_0 hl165_0
                replace p165 := eq_true p165
                replace q165 := eq_true q165
                go_wp2
                repeat (go_quiet (fail); try go_wp2)
                go_roundg k4
                case measure => have := HK1.out; have := HJ3.out; have := HJ12.out; have := HK4.out; omega
                case rel => exact ⟨(wrap64 (x5_4 + 1)), (by first | rfl | (simp; done) | (simp [*]; done)), H', ⟨by have := HK1.out; have := HJ3.out; have := HJ12.out; have := HK4.out; omega⟩, ⟨by (with_reducible repeat (first | refine blk_drewN ?_ _ | refine blk_drew ?_ | refine blk_alloc ?_ _)); exact BK162.out⟩, ⟨by repeat (first | (with_reducible first | exact HB.out | apply below_alloc | apply pw_below_drewN | apply below_drew1 | refine below_set ?_ GE162.out) | exact HB.out)⟩⟩
              ·rw [if_neg c21] at H
               exact absurd H (by simp)
             ·rw [if_neg c20] at H
              have c20b0 : decide (x5_4 < (((rd_T28 l0 x3_1).f1).length : Int)) = false := decide_eq_false c20
              clear c20
              have H' := Aside0.mk H
              clear H
              have hcz25_0 : wr.cell? ⟨gb162, 0, none⟩ = some (.int .i64 ((rd_T28 l0 x3_1).f0)) := (blk_cell BK162.out 0).trans rfl
              have hcz25_1 : wr.cell? ⟨gb162, 1, none⟩ = some (.slice A161_1 ((rd_T28 l0 x3_1).f1).length c161_1) := (blk_cell BK162.out 1).trans rfl
              have hcz25_2 : wr.cell? ⟨gb162, 2, none⟩ = some (.slice A161_2 ((rd_T28 l0 x3_1).f2).length c161_2) := (blk_cell BK162.out 2).trans rfl
              have hfz25_0 := blk_frozen BK162.out 0
              have hfz25_1 := blk_frozen BK162.out 1
              have hfz25_2 := blk_frozen BK162.out 2
              go_wp2
              repeat (go_quiet (fail); try go_wp2)
              go_loopg [6] k4 (fun kq v6 w' => ∃ (x6_5 : Int), v6 = .int .i64 x6_5 ∧ Aside0 (tattingref24_Good.l2 kq l0 x3_1 x6_5 ((rd_T28 l0 x3_1).f0) ((rd_T28 l0 x3_1).f1) ((rd_T28 l0 x3_1).f2) = some r) ∧ Aside0 (kq ≤ k4) ∧ Aside0 (w'.heap[gb162]? = some (.cells #[.int .i64 ((rd_T28 l0 x3_1).f0), (.slice A161_1 ((rd_T28 l0 x3_1).f1).length c161_1), (.slice A161_2 ((rd_T28 l0 x3_1).f2).length c161_2)] 28 (0, 0))) ∧ Aside0 (Below w.heap.size w w'))
              case atStart => exact ⟨(0), (by first | rfl | (simp; done) | (simp [*]; done)), H', ⟨Nat.le_refl _⟩, ⟨by (with_reducible repeat (first | refine blk_drewN ?_ _ | refine blk_drew ?_ | refine blk_alloc ?_ _)); exact BK162.out⟩, ⟨by repeat (first | (with_reducible first | exact HB.out | apply below_alloc | apply pw_below_drewN | apply below_drew1 | refine below_set ?_ GE162.out) | exact HB.out)⟩⟩
              case round =>
               clear H'
               try clear c1
               try clear p1
               try clear q1
               try clear hx1
               try clear c2
               try clear c2b0
               try clear p2
               try clear c3
               try clear c3b0
               try clear p6
               try clear c7
               try clear c7b0
               try clear c9
               try clear c9b0
               try clear c12
               try clear c14
               try clear c14b0
               try clear c16
               try clear c16b0
               try clear p16
               try clear q16
               try clear hx16
               try clear c17
               try clear c17b0
               try clear c19
               try clear c20
               try clear c20b0
               try clear c21
               try clear c21b0
               try clear c22
               try clear c22b0
               try clear c22b1
               try clear c22b2
               try clear hcz10_0
               try clear hcz10_1
               try clear hcz10_2
               try clear hcz11_0
               try clear hcz11_1
               try clear hcz11_2
               try clear hcz18_0
               try clear hcz18_1
               try clear hcz18_2
               try clear hcz23_0
               try clear hcz23_1
               try clear hcz23_2
               try clear hcz24_0
               try clear hcz24_1
               try clear hcz24_2
               try clear hcz25_0
               try clear hcz25_1
               try clear hcz25_2
               try clear hcz6_0
               try clear hcz6_1
               try clear hcz6_2
               try clear hcz8_0
               try clear hcz8_1
               try clear hcz8_2
               try clear hfz10_0
               try clear hfz10_1
               try clear hfz10_2
               try clear hfz11_0
               try clear hfz11_1
               try clear hfz11_2
               try clear hfz18_0
               try clear hfz18_1
               try clear hfz18_2
               try clear hfz23_0
               try clear hfz23_1
               try clear hfz23_2
               try clear hfz24_0
               try clear hfz24_1
               try clear hfz24_2
               try clear hfz25_0
               try clear hfz25_1
               try clear hfz25_2
               try clear hfz6_0
               try clear hfz6_1
               try clear hfz6_2
               try clear hfz8_0
               try clear hfz8_1
               try clear hfz8_2
               try clear hx161_0
               try clear hx161_1
               try clear hx161_2
               try clear hx163_0
               try clear hx163_1
               try clear hx163_2
               try clear hx164_0
               try clear hx164_1
               try clear hx164_2
               try clear hx165_0
               try clear p1
               try clear p16
               try clear p161
               try clear p163
               try clear p164
               try clear p165
               try clear p2
               try clear p6
               try clear q1
               try clear q16
               try clear q161
               try clear q163
               try clear q164
               try clear q165
               obtain ⟨x6_5, rfl, HA, HK5, BK162, HB⟩ := hrel
               cases gk with
               | zero => exact absurd HA.out (by simp [tattingref24_Good.l2])
               | succ k5 =>
                have H := HA.out
                clear HA
                simp only [tattingref24_Good.l2] at H
                by_cases c26 : x6_5 < (((rd_T28 l0 x3_1).f2).length : Int)
                ·rw [if_pos c26] at H
                 have c26b0 : decide (x6_5 < (((rd_T28 l0 x3_1).f2).length : Int)) = true := decide_eq_true c26
                 clear c26
                 by_cases c27 : 0 ≤ x6_5
                 ·rw [if_pos c27] at H
                  have c27b0 : decide (0 ≤ x6_5) = true := decide_eq_true c27
                  clear c27
                  by_cases c28 : ((rd_L1 ((rd_T28 l0 x3_1).f2) x6_5).length : Int) = 0
                  ·rw [if_pos c28] at H
                   have c28b0 : (((rd_L1 ((rd_T28 l0 x3_1).f2) x6_5).length : Int) == 0) = true := beq_iff_eq.mpr c28
                   have c28b1 : (((rd_L1 ((rd_T28 l0 x3_1).f2) x6_5).length : Int) != 0) = false := bne_eq_false_iff_eq.mpr c28
                   clear c28
                   obtain rfl := Option.some.inj H
                   have hcz29_0 : wr.cell? ⟨gb162, 0, none⟩ = some (.int .i64 ((rd_T28 l0 x3_1).f0)) := (blk_cell BK162.out 0).trans rfl
                   have hcz29_1 : wr.cell? ⟨gb162, 1, none⟩ = some (.slice A161_1 ((rd_T28 l0 x3_1).f1).length c161_1) := (blk_cell BK162.out 1).trans rfl
                   have hcz29_2 : wr.cell? ⟨gb162, 2, none⟩ = some (.slice A161_2 ((rd_T28 l0 x3_1).f2).length c161_2) := (blk_cell BK162.out 2).trans rfl
                   have hfz29_0 := blk_frozen BK162.out 0
                   have hfz29_1 := blk_frozen BK162.out 1
                   have hfz29_2 := blk_frozen BK162.out 2
                   have p166 : 0 ≤ (x6_5 : Int) := of_decide_eq_true (by first | (with_reducible assumption) | assumption)
                   have q166 : x6_5 < (((rd_T28 l0 x3_1).f2).length : Int) := of_decide_eq_true (by first | (with_reducible assumption) | assumption)
                   obtain ⟨ad166, A166_0, c166_0, e166, hx166_0, hl166_0, hi166_0⟩ := at_L1 HR161_2.out x6_5 p166 q166
                   cases e166
                   replace hx166_0 := (HB.out.cell (World.block_lt_of_cell? w _ hx166_0)).trans hx166_0
                   have HR166_0 := Aside0.mk hi166_0
                   have HC166_0 := Aside0.mk hl166_0
                   clear hi166_0 hl166_0
                   replace p166 := eq_true p166
                   replace q166 := eq_true q166
                   go_wp2
                   repeat (go_quiet (fail); try go_wp2)
                   go_ret
                   exact ⟨by first | rfl | (simp [errW_none, errW_some] <;> rfl) | (simp [*, errW_none, errW_some] <;> rfl), by repeat (first | (with_reducible first | exact HB.out | apply below_alloc | apply pw_below_drewN | apply below_drew1 | refine below_set ?_ GE162.out) | exact HB.out)⟩
                  ·rw [if_neg c28] at H
                   have c28b0 : (((rd_L1 ((rd_T28 l0 x3_1).f2) x6_5).length : Int) == 0) = false := beq_eq_false_iff_ne.mpr c28
                   have c28b1 : (((rd_L1 ((rd_T28 l0 x3_1).f2) x6_5).length : Int) != 0) = true := bne_iff_ne.mpr c28
                   have c28b2 : ¬ ((rd_L1 ((rd_T28 l0 x3_1).f2) x6_5) = []) := fun h_ => c28 (by rw [h_]; rfl)
                   have H' := Aside0.mk H
                   clear H
                   have hcz30_0 : wr.cell? ⟨gb162, 0, none⟩ = some (.int .i64 ((rd_T28 l0 x3_1).f0)) := (blk_cell BK162.out 0).trans rfl
                   have hcz30_1 : wr.cell? ⟨gb162, 1, none⟩ = some (.slice A161_1 ((rd_T28 l0 x3_1).f1).length c161_1) := (blk_cell BK162.out 1).trans rfl
                   have hcz30_2 : wr.cell? ⟨gb162, 2, none⟩ = some (.slice A161_2 ((rd_T28 l0 x3_1).f2).length c161_2) := (blk_cell BK162.out 2).trans rfl
                   have hfz30_0 := blk_frozen BK162.out 0
                   have hfz30_1 := blk_frozen BK162.out 1
                   have hfz30_2 := blk_frozen BK162.out 2
                   have p166 : 0 ≤ (x6_5 : Int) := of_decide_eq_true (by first | (with_reducible assumption) | assumption)
                   have q166 : x6_5 < (((rd_T28 l0 x3_1).f2).length : Int) := of_decide_eq_true (by first | (with_reducible assumption) | assumption)
                   obtain ⟨ad166, A166_0, c166_0, e166, hx166_0, hl166_0, hi166_0⟩ := at_L1 HR161_2.out x6_5 p166 q166
                   cases e166
                   replace hx166_0 := (HB.out.cell (World.block_lt_of_cell? w _ hx166_0)).trans hx166_0
                   have HR166_0 := Aside0.mk hi166_0
                   have HC166_0 := Aside0.mk hl166_0
                   clear hi166_0 hl166_0
                   replace p166 := eq_true p166
                   replace q166 := eq_true q166
                   go_wp2
                   repeat (go_quiet (fail); try go_wp2)
                   go_roundg k5
                   case measure => have := HK1.out; have := HJ3.out; have := HJ12.out; have := HK4.out; have := HK5.out; omega
                   case rel => exact ⟨(wrap64 (x6_5 + 1)), (by first | rfl | (simp; done) | (simp [*]; done)), H', ⟨by have := HK1.out; have := HJ3.out; have := HJ12.out; have := HK4.out; have := HK5.out; omega⟩, ⟨by (with_reducible repeat (first | refine blk_drewN ?_ _ | refine blk_drew ?_ | refine blk_alloc ?_ _)); exact BK162.out⟩, ⟨by repeat (first | (with_reducible first | exact HB.out | apply below_alloc | apply pw_below_drewN | apply below_drew1 | refine below_set ?_ GE162.out) | exact HB.out)⟩⟩
                 ·rw [if_neg c27] at H
                  exact absurd H (by simp)
                ·rw [if_neg c26] at H
                 have c26b0 : decide (x6_5 < (((rd_T28 l0 x3_1).f2).length : Int)) = false := decide_eq_false c26
                 clear c26
                 have H' := Aside0.mk H
                 clear H
                 have hcz31_0 : wr.cell? ⟨gb162, 0, none⟩ = some (.int .i64 ((rd_T28 l0 x3_1).f0)) := (blk_cell BK162.out 0).trans rfl
                 have hcz31_1 : wr.cell? ⟨gb162, 1, none⟩ = some (.slice A161_1 ((rd_T28 l0 x3_1).f1).length c161_1) := (blk_cell BK162.out 1).trans rfl
                 have hcz31_2 : wr.cell? ⟨gb162, 2, none⟩ = some (.slice A161_2 ((rd_T28 l0 x3_1).f2).length c161_2) := (blk_cell BK162.out 2).trans rfl
                 have hfz31_0 := blk_frozen BK162.out 0
                 have hfz31_1 := blk_frozen BK162.out 1
                 have hfz31_2 := blk_frozen BK162.out 2
                 go_wp2
                 repeat (go_quiet (fail); try go_wp2)
                 go_roundg k5
                 case measure => have := HK1.out; have := HJ3.out; have := HJ12.out; have := HK4.out; have := HK5.out; omega
                 case rel => exact ⟨(wrap64 (x3_1 + 1)), (by first | rfl | (simp; done) | (simp [*]; done)), H', ⟨by have := HK1.out; have := HJ3.out; have := HJ12.out; have := HK4.out; have := HK5.out; omega⟩, ⟨by repeat (first | (with_reducible first | exact HB.out | apply below_alloc | apply pw_below_drewN | apply below_drew1 | refine below_set ?_ GE162.out) | exact HB.out)⟩⟩
    ·rw [if_neg c3] at H
     exact absurd H (by simp)
   ·rw [if_neg c2] at H
    have c2b0 : decide (x3_1 < (l0.length : Int)) = false := decide_eq_false c2
    clear c2
    obtain rfl := Option.some.inj H
    go_wp2
    repeat (go_quiet (fail); try go_wp2)
    go_ret
    exact ⟨by first | rfl | (simp [errW_none, errW_some] <;> rfl) | (simp [*, errW_none, errW_some] <;> rfl), by repeat (first | (with_reducible first | exact HB.out | apply below_alloc | apply pw_below_drewN | apply below_drew1) | exact HB.out)⟩

end Go.Proofs.Ytlodaoijokfblaa.PPatchApplies
