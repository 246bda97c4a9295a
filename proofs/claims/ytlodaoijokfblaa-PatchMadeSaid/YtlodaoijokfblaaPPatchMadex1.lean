/- What the given program's functions come to, each a Lean function and the walk that shows it: no condition beside those that each theorem names. -/
import Derived.Test.YtlodaoijokfblaaPPatchMadex0
namespace Go.Proofs.Ytlodaoijokfblaa.PPatchMade
open Go.RowKit Go.Proofs.YtlodaoijokfblaaW.PrintWords Go.Proofs.YtlodaoijokfblaaW.PrintLast Go.Proofs.YtlodaoijokfblaaW.PrintMore
attribute [local go_sem] max2_int min2_int max_two min_two max_three min_three max_four min_four   -- for this text's walks alone
set_option linter.unusedVariables false
set_option linter.unusedSimpArgs false

/-! ### edit_all: function 33 -/
def edit_all.l0 : Nat → List (List Int) → Int → Int → Option (Bool)
 | 0, _, _, _ => none
 | k + 1, x5, x6, x7 => if x7 < x6 then (if 0 ≤ x7 then (if x7 < (x5.length : Int) then (if ((rd_L1 x5 x7).length : Int) = 0 then (some false) else (edit_all.l0 k x5 x6 (wrap64 (x7 + 1)))) else (none)) else (none)) else (some true)
def edit_all.f (k : Nat) (l0 : List (List Int)) : Option (Bool) := edit_all.l0 k l0 (l0.length : Int) 0
theorem edit_all.mono_l : ∀ k, (∀ y0 y1 y2, LeO (edit_all.l0 k y0 y1 y2) (edit_all.l0 (k + 1) y0 y1 y2))
 | 0 => fun _ _ _ r h => by simp [edit_all.l0] at h
 | k + 1 => by
  have ih0 := edit_all.mono_l k
  ·intro y0 y1 y2
   unfold edit_all.l0
   repeat' first
   | (with_reducible exact ih0 _ _ _)
   | (with_reducible exact LeO.refl _)
   | (with_reducible exact LeO.none _)
   | (with_reducible refine LeO.ite ?_ ?_)
   | (with_reducible refine LeO.bind ?_ (fun _ => ?_))
   | exact ih0 _ _ _
   | exact LeO.none _
   | refine LeO.ite ?_ ?_
   | refine LeO.bind ?_ (fun _ => ?_)
theorem edit_all.mono : ∀ a0 k, LeO (edit_all.f k a0) (edit_all.f (k + 1) a0) := by
 intro a0 k
 have ih0 := edit_all.mono_l k
 unfold edit_all.f
 repeat' first
   | (with_reducible exact ih0 _ _ _)
   | (with_reducible exact LeO.refl _)
   | (with_reducible exact LeO.none _)
   | (with_reducible refine LeO.ite ?_ ?_)
   | (with_reducible refine LeO.bind ?_ (fun _ => ?_))
   | exact ih0 _ _ _
   | exact LeO.none _
   | refine LeO.ite ?_ ?_
   | refine LeO.bind ?_ (fun _ => ?_)
set_option maxHeartbeats 8000000 in
set_option maxRecDepth 100000 in
theorem edit_all.calls (k : Nat) (A0 : Option Addr) (c0 : Nat) (l0 : List (List Int)) (r : Bool) (w : World) (hr0 : Kd.C (Kd.slice 5 (Kd.int .u8)) w A0 l0.length l0) (hc0 : l0.length ≤ c0) (h : edit_all.f k l0 = some r) :
  Calls Try.prog 33 #[.slice A0 l0.length c0] w fun e w' => e = .returned (.bool r) ∧ Drawn0 w w' := by
 have HR0 := Aside0.mk hr0
 have HC0 := Aside0.mk hc0
 clear hr0 hc0
 have H : (edit_all.l0 k l0 (l0.length : Int) 0) = some r := h
 clear h
 have H' := Aside0.mk H
 clear H
 go_enter Try.func33, Try.ntmps33
 go_wp2
 go_loopg [7] k (fun kq v7 w' => ∃ (x7_1 : Int), v7 = .int .i64 x7_1 ∧ Aside0 (edit_all.l0 kq l0 (l0.length : Int) x7_1 = some r) ∧ Aside0 (kq ≤ k) ∧ Drawn0 w w')
 case atStart => exact ⟨(0), (by first | rfl | (simp; done) | (simp [*]; done)), H', ⟨Nat.le_refl _⟩, by repeat (first | exact Drawn0.refl _ | apply Drawn0.step)⟩
 case round =>
  clear H'
  obtain ⟨x7_1, rfl, HA, HK1, ⟨m1, rfl⟩⟩ := hrel
  cases gk with
  | zero => exact absurd HA.out (by simp [edit_all.l0])
  | succ k1 =>
   have H := HA.out
   clear HA
   simp only [edit_all.l0] at H
   by_cases c2 : x7_1 < (l0.length : Int)
   ·rw [if_pos c2] at H
    have c2b0 : decide (x7_1 < (l0.length : Int)) = true := decide_eq_true c2
    clear c2
    by_cases c3 : 0 ≤ x7_1
    ·rw [if_pos c3] at H
     have c3b0 : decide (0 ≤ x7_1) = true := decide_eq_true c3
     clear c3
     by_cases c4 : x7_1 < (l0.length : Int)
     ·rw [if_pos c4] at H
      have c4b0 : decide (x7_1 < (l0.length : Int)) = true := decide_eq_true c4
      clear c4
      by_cases c5 : ((rd_L1 l0 x7_1).length : Int) = 0
      ·rw [if_pos c5] at H
       have c5b0 : (((rd_L1 l0 x7_1).length : Int) == 0) = true := beq_iff_eq.mpr c5
       have c5b1 : (((rd_L1 l0 x7_1).length : Int) != 0) = false := bne_eq_false_iff_eq.mpr c5
       clear c5
       obtain rfl := Option.some.inj H
       have p101 : 0 ≤ (x7_1 : Int) := of_decide_eq_true (by first | (with_reducible assumption) | assumption)
       have q101 : x7_1 < (l0.length : Int) := of_decide_eq_true (by first | (with_reducible assumption) | assumption)
       obtain ⟨ad101, A101_0, c101_0, e101, hx101_0, hl101_0, hi101_0⟩ := at_L1 HR0.out x7_1 p101 q101
       cases e101
       have HR101_0 := Aside0.mk hi101_0
       have HC101_0 := Aside0.mk hl101_0
       clear hi101_0 hl101_0
       replace p101 := eq_true p101
       replace q101 := eq_true q101
       go_wp2
       go_ret
       exact ⟨by first | rfl | (simp; done) | (simp [*]; done), by repeat (first | exact Drawn0.refl _ | apply Drawn0.step)⟩
      ·rw [if_neg c5] at H
       have c5b0 : (((rd_L1 l0 x7_1).length : Int) == 0) = false := beq_eq_false_iff_ne.mpr c5
       have c5b1 : (((rd_L1 l0 x7_1).length : Int) != 0) = true := bne_iff_ne.mpr c5
       have c5b2 : ¬ ((rd_L1 l0 x7_1) = []) := fun h_ => c5 (by rw [h_]; rfl)
       have H' := Aside0.mk H
       clear H
       have p101 : 0 ≤ (x7_1 : Int) := of_decide_eq_true (by first | (with_reducible assumption) | assumption)
       have q101 : x7_1 < (l0.length : Int) := of_decide_eq_true (by first | (with_reducible assumption) | assumption)
       obtain ⟨ad101, A101_0, c101_0, e101, hx101_0, hl101_0, hi101_0⟩ := at_L1 HR0.out x7_1 p101 q101
       cases e101
       have HR101_0 := Aside0.mk hi101_0
       have HC101_0 := Aside0.mk hl101_0
       clear hi101_0 hl101_0
       replace p101 := eq_true p101
       replace q101 := eq_true q101
       go_wp2
       go_roundg k1
       case measure => have := HK1.out; omega
       case rel => exact ⟨(wrap64 (x7_1 + 1)), (by first | rfl | (simp; done) | (simp [*]; done)), H', ⟨by have := HK1.out; omega⟩, by repeat (first | exact Drawn0.refl _ | apply Drawn0.step)⟩
     ·rw [if_neg c4] at H
      exact absurd H (by simp)
    ·rw [if_neg c3] at H
     exact absurd H (by simp)
   ·rw [if_neg c2] at H
    have c2b0 : decide (x7_1 < (l0.length : Int)) = false := decide_eq_false c2
    clear c2
    obtain rfl := Option.some.inj H
    go_wp2
    go_ret
    exact ⟨by first | rfl | (simp; done) | (simp [*]; done), by repeat (first | exact Drawn0.refl _ | apply Drawn0.step)⟩

/-! ### edit_Good: function 23 -/
def edit_Good.l0 : Nat → Int → List (S28) → Int → Int → Option (Bool)
 | 0, _, _, _, _ => none
 | k + 1, x3, x6, x7, x8 => if x8 < x7 then (if 0 ≤ x8 then (if x8 < (x6.length : Int) then (if ((rd_T28 x6 x8).f0) ≤ x3 then (some false) else (if ((rd_T28 x6 x8).f0) > 1048576 then (some false) else (if (wrap64 ((((rd_T28 x6 x8).f1).length : Int) + (((rd_T28 x6 x8).f2).length : Int))) = 0 then (some false) else ((edit_all.f k ((rd_T28 x6 x8).f1)).bind fun t104 => (if t104 = true then ((edit_all.f k ((rd_T28 x6 x8).f2)).bind fun t105 => (if t105 = true then (edit_Good.l0 k (wrap64 (((rd_T28 x6 x8).f0) + (((rd_T28 x6 x8).f1).length : Int))) x6 x7 (wrap64 (x8 + 1))) else (some false))) else (some false)))))) else (none)) else (none)) else (some true)
def edit_Good.f (k : Nat) (l0 : List (S28)) : Option (Bool) := edit_Good.l0 k (-1) l0 (l0.length : Int) 0
theorem edit_Good.mono_l : ∀ k, (∀ y0 y1 y2 y3, LeO (edit_Good.l0 k y0 y1 y2 y3) (edit_Good.l0 (k + 1) y0 y1 y2 y3))
 | 0 => fun _ _ _ _ r h => by simp [edit_Good.l0] at h
 | k + 1 => by
  have ih0 := edit_Good.mono_l k
  ·intro y0 y1 y2 y3
   unfold edit_Good.l0
   repeat' first
   | (with_reducible exact ih0 _ _ _ _)
   | (with_reducible exact edit_all.mono _ _)
   | (with_reducible exact LeO.refl _)
   | (with_reducible exact LeO.none _)
   | (with_reducible refine LeO.ite ?_ ?_)
   | (with_reducible refine LeO.bind ?_ (fun _ => ?_))
   | exact ih0 _ _ _ _
   | exact edit_all.mono _ _
   | exact LeO.none _
   | refine LeO.ite ?_ ?_
   | refine LeO.bind ?_ (fun _ => ?_)
theorem edit_Good.mono : ∀ a0 k, LeO (edit_Good.f k a0) (edit_Good.f (k + 1) a0) := by
 intro a0 k
 have ih0 := edit_Good.mono_l k
 unfold edit_Good.f
 repeat' first
   | (with_reducible exact ih0 _ _ _ _)
   | (with_reducible exact edit_all.mono _ _)
   | (with_reducible exact LeO.refl _)
   | (with_reducible exact LeO.none _)
   | (with_reducible refine LeO.ite ?_ ?_)
   | (with_reducible refine LeO.bind ?_ (fun _ => ?_))
   | exact ih0 _ _ _ _
   | exact edit_all.mono _ _
   | exact LeO.none _
   | refine LeO.ite ?_ ?_
   | refine LeO.bind ?_ (fun _ => ?_)
set_option maxHeartbeats 8000000 in
set_option maxRecDepth 100000 in
theorem edit_Good.calls (k : Nat) (A0 : Option Addr) (c0 : Nat) (l0 : List (S28)) (r : Bool) (w : World) (hr0 : Kd.C k28 w A0 l0.length l0) (hc0 : l0.length ≤ c0) (h : edit_Good.f k l0 = some r) :
  Calls Try.prog 23 #[.slice A0 l0.length c0] w fun e w' => e = .returned (.bool r) ∧ Below w.heap.size w w' := by
 have hu28 := Try.underlying28
 have HR0 := Aside0.mk hr0
 have HC0 := Aside0.mk hc0
 clear hr0 hc0
 have HB := Aside0.mk (Below.refl w.heap.size w)
 have H : (edit_Good.l0 k (-1) l0 (l0.length : Int) 0) = some r := h
 clear h
 have H' := Aside0.mk H
 clear H
 go_enter Try.func23, Try.ntmps23
 go_wp2
 go_loopg [3, 8] k (fun kq v3 v8 w' => ∃ (x3_1 : Int) (x8_1 : Int), v3 = .int .i64 x3_1 ∧ v8 = .int .i64 x8_1 ∧ Aside0 (edit_Good.l0 kq x3_1 l0 (l0.length : Int) x8_1 = some r) ∧ Aside0 (kq ≤ k) ∧ Aside0 (Below w.heap.size w w'))
 case atStart => exact ⟨((-1)), (0), (by first | rfl | (simp; done) | (simp [*]; done)), (by first | rfl | (simp; done) | (simp [*]; done)), H', ⟨Nat.le_refl _⟩, ⟨by repeat (first | (with_reducible first | exact HB.out | apply below_alloc | apply pw_below_drewN | apply below_drew1) | exact HB.out)⟩⟩
 case round =>
  clear H'
  obtain ⟨x3_1, x8_1, rfl, rfl, HA, HK1, HB⟩ := hrel
  cases gk with
  | zero => exact absurd HA.out (by simp [edit_Good.l0])
  | succ k1 =>
   have H := HA.out
   clear HA
   simp only [edit_Good.l0] at H
   by_cases c2 : x8_1 < (l0.length : Int)
   ·rw [if_pos c2] at H
    have c2b0 : decide (x8_1 < (l0.length : Int)) = true := decide_eq_true c2
    clear c2
    by_cases c3 : 0 ≤ x8_1
    ·rw [if_pos c3] at H
     have c3b0 : decide (0 ≤ x8_1) = true := decide_eq_true c3
     clear c3
     by_cases c4 : x8_1 < (l0.length : Int)
     ·rw [if_pos c4] at H
      have c4b0 : decide (x8_1 < (l0.length : Int)) = true := decide_eq_true c4
      clear c4
      by_cases c5 : ((rd_T28 l0 x8_1).f0) ≤ x3_1
      ·rw [if_pos c5] at H
       have c5b0 : decide (((rd_T28 l0 x8_1).f0) ≤ x3_1) = true := decide_eq_true c5
       clear c5
       obtain rfl := Option.some.inj H
       have p102 : 0 ≤ (x8_1 : Int) := of_decide_eq_true (by first | (with_reducible assumption) | assumption)
       have q102 : x8_1 < (l0.length : Int) := of_decide_eq_true (by first | (with_reducible assumption) | assumption)
       obtain ⟨ad102, A102_1, c102_1, A102_2, c102_2, e102, hx102_0, hx102_1, hx102_2, hl102_1, hi102_1, hl102_2, hi102_2⟩ := at_T28 HR0.out x8_1 p102 q102
       cases e102
       replace hx102_0 := (HB.out.cell (World.block_lt_of_cell? w _ hx102_0)).trans hx102_0
       replace hx102_1 := (HB.out.cell (World.block_lt_of_cell? w _ hx102_1)).trans hx102_1
       replace hx102_2 := (HB.out.cell (World.block_lt_of_cell? w _ hx102_2)).trans hx102_2
       have HR102_1 := Aside0.mk hi102_1
       have HC102_1 := Aside0.mk hl102_1
       clear hi102_1 hl102_1
       have HR102_2 := Aside0.mk hi102_2
       have HC102_2 := Aside0.mk hl102_2
       clear hi102_2 hl102_2
       replace p102 := eq_true p102
       replace q102 := eq_true q102
       go_wp2_with (first | ((with_reducible refine gate_dst (N := 5) rfl ?_); (try (refine gate_guard (by rfl) ?_; dsimp only)); refine box_event ?hg (N := 5) ?hd (cs := #[.int .i64 0, .slice none 0 0, .slice none 0 0]) (t := 28) ?hr ?_; (case hd => rfl); (case hg => rfl); (case hr => first | (go_simp; done) | (go_simp; rfl)); intro gb103 hg w6 hbox hb; have n0_ := Aside0.mk (below_step (by repeat (first | (with_reducible first | exact HB.out | apply below_alloc | apply pw_below_drewN | apply below_drew1) | exact HB.out)) hb); have n1_ := Aside0.mk (hbox); have n2_ := Aside0.mk ((by rw [hg]; exact (below_size (by repeat (first | (with_reducible first | exact HB.out | apply below_alloc | apply pw_below_drewN | apply below_drew1) | exact HB.out))) : w.heap.size ≤ gb103)); have n3_ := Aside0.mk ((by rw [hg]; exact (below_size (by repeat (first | (with_reducible first | exact HB.out | apply below_alloc | apply pw_below_drewN | apply below_drew1) | exact HB.out))) : w.heap.size ≤ gb103)); clear HB; have HB := n0_; have BK103 := n1_; have GW103 := n2_; have GE103 := n3_; clear n0_ n1_ n2_ n3_; (try clear hb); (try clear hbox); (try clear hg); have hcz7_0 : w6.cell? ⟨gb103, 0, none⟩ = some (.int .i64 0) := (blk_cell BK103.out 0).trans rfl; have hcz7_1 : w6.cell? ⟨gb103, 1, none⟩ = some (.slice none 0 0) := (blk_cell BK103.out 1).trans rfl; have hcz7_2 : w6.cell? ⟨gb103, 2, none⟩ = some (.slice none 0 0) := (blk_cell BK103.out 2).trans rfl; have hfz7_0 := blk_frozen BK103.out 0; have hfz7_1 := blk_frozen BK103.out 1; have hfz7_2 := blk_frozen BK103.out 2))
       go_ret
       exact ⟨by first | rfl | (simp [errW_none, errW_some] <;> rfl) | (simp [*, errW_none, errW_some] <;> rfl), by repeat (first | (with_reducible first | exact HB.out | apply below_alloc | apply pw_below_drewN | apply below_drew1 | refine below_set ?_ GE103.out) | exact HB.out)⟩
      ·rw [if_neg c5] at H
       have c5b0 : decide (((rd_T28 l0 x8_1).f0) ≤ x3_1) = false := decide_eq_false c5
       clear c5
       by_cases c8 : ((rd_T28 l0 x8_1).f0) > 1048576
       ·rw [if_pos c8] at H
        have c8b0 : decide (1048576 < ((rd_T28 l0 x8_1).f0)) = true := decide_eq_true c8
        clear c8
        obtain rfl := Option.some.inj H
        have p102 : 0 ≤ (x8_1 : Int) := of_decide_eq_true (by first | (with_reducible assumption) | assumption)
        have q102 : x8_1 < (l0.length : Int) := of_decide_eq_true (by first | (with_reducible assumption) | assumption)
        obtain ⟨ad102, A102_1, c102_1, A102_2, c102_2, e102, hx102_0, hx102_1, hx102_2, hl102_1, hi102_1, hl102_2, hi102_2⟩ := at_T28 HR0.out x8_1 p102 q102
        cases e102
        replace hx102_0 := (HB.out.cell (World.block_lt_of_cell? w _ hx102_0)).trans hx102_0
        replace hx102_1 := (HB.out.cell (World.block_lt_of_cell? w _ hx102_1)).trans hx102_1
        replace hx102_2 := (HB.out.cell (World.block_lt_of_cell? w _ hx102_2)).trans hx102_2
        have HR102_1 := Aside0.mk hi102_1
        have HC102_1 := Aside0.mk hl102_1
        clear hi102_1 hl102_1
        have HR102_2 := Aside0.mk hi102_2
        have HC102_2 := Aside0.mk hl102_2
        clear hi102_2 hl102_2
        replace p102 := eq_true p102
        replace q102 := eq_true q102
        go_wp2_with (first | ((with_reducible refine gate_dst (N := 5) rfl ?_); (try (refine gate_guard (by rfl) ?_; dsimp only)); refine box_event ?hg (N := 5) ?hd (cs := #[.int .i64 0, .slice none 0 0, .slice none 0 0]) (t := 28) ?hr ?_; (case hd => rfl); (case hg => rfl); (case hr => first | (go_simp; done) | (go_simp; rfl)); intro gb103 hg w9 hbox hb; have n0_ := Aside0.mk (below_step (by repeat (first | (with_reducible first | exact HB.out | apply below_alloc | apply pw_below_drewN | apply below_drew1) | exact HB.out)) hb); have n1_ := Aside0.mk (hbox); have n2_ := Aside0.mk ((by rw [hg]; exact (below_size (by repeat (first | (with_reducible first | exact HB.out | apply below_alloc | apply pw_below_drewN | apply below_drew1) | exact HB.out))) : w.heap.size ≤ gb103)); have n3_ := Aside0.mk ((by rw [hg]; exact (below_size (by repeat (first | (with_reducible first | exact HB.out | apply below_alloc | apply pw_below_drewN | apply below_drew1) | exact HB.out))) : w.heap.size ≤ gb103)); clear HB; have HB := n0_; have BK103 := n1_; have GW103 := n2_; have GE103 := n3_; clear n0_ n1_ n2_ n3_; (try clear hb); (try clear hbox); (try clear hg); have hcz10_0 : w9.cell? ⟨gb103, 0, none⟩ = some (.int .i64 0) := (blk_cell BK103.out 0).trans rfl; have hcz10_1 : w9.cell? ⟨gb103, 1, none⟩ = some (.slice none 0 0) := (blk_cell BK103.out 1).trans rfl; have hcz10_2 : w9.cell? ⟨gb103, 2, none⟩ = some (.slice none 0 0) := (blk_cell BK103.out 2).trans rfl; have hfz10_0 := blk_frozen BK103.out 0; have hfz10_1 := blk_frozen BK103.out 1; have hfz10_2 := blk_frozen BK103.out 2))
        go_ret
        exact ⟨by first | rfl | (simp [errW_none, errW_some] <;> rfl) | (simp [*, errW_none, errW_some] <;> rfl), by repeat (first | (with_reducible first | exact HB.out | apply below_alloc | apply pw_below_drewN | apply below_drew1 | refine below_set ?_ GE103.out) | exact HB.out)⟩
       ·rw [if_neg c8] at H
        have c8b0 : decide (1048576 < ((rd_T28 l0 x8_1).f0)) = false := decide_eq_false c8
        clear c8
        by_cases c11 : (wrap64 ((((rd_T28 l0 x8_1).f1).length : Int) + (((rd_T28 l0 x8_1).f2).length : Int))) = 0
        ·rw [if_pos c11] at H
         have c11b0 : ((wrap64 ((((rd_T28 l0 x8_1).f1).length : Int) + (((rd_T28 l0 x8_1).f2).length : Int))) == 0) = true := beq_iff_eq.mpr c11
         have c11b1 : ((wrap64 ((((rd_T28 l0 x8_1).f1).length : Int) + (((rd_T28 l0 x8_1).f2).length : Int))) != 0) = false := bne_eq_false_iff_eq.mpr c11
         clear c11
         obtain rfl := Option.some.inj H
         have p102 : 0 ≤ (x8_1 : Int) := of_decide_eq_true (by first | (with_reducible assumption) | assumption)
         have q102 : x8_1 < (l0.length : Int) := of_decide_eq_true (by first | (with_reducible assumption) | assumption)
         obtain ⟨ad102, A102_1, c102_1, A102_2, c102_2, e102, hx102_0, hx102_1, hx102_2, hl102_1, hi102_1, hl102_2, hi102_2⟩ := at_T28 HR0.out x8_1 p102 q102
         cases e102
         replace hx102_0 := (HB.out.cell (World.block_lt_of_cell? w _ hx102_0)).trans hx102_0
         replace hx102_1 := (HB.out.cell (World.block_lt_of_cell? w _ hx102_1)).trans hx102_1
         replace hx102_2 := (HB.out.cell (World.block_lt_of_cell? w _ hx102_2)).trans hx102_2
         have HR102_1 := Aside0.mk hi102_1
         have HC102_1 := Aside0.mk hl102_1
         clear hi102_1 hl102_1
         have HR102_2 := Aside0.mk hi102_2
         have HC102_2 := Aside0.mk hl102_2
         clear hi102_2 hl102_2
         replace p102 := eq_true p102
         replace q102 := eq_true q102
         go_wp2_with (first | ((with_reducible refine gate_dst (N := 5) rfl ?_); (try (refine gate_guard (by rfl) ?_; dsimp only)); refine box_event ?hg (N := 5) ?hd (cs := #[.int .i64 0, .slice none 0 0, .slice none 0 0]) (t := 28) ?hr ?_; (case hd => rfl); (case hg => rfl); (case hr => first | (go_simp; done) | (go_simp; rfl)); intro gb103 hg w12 hbox hb; have n0_ := Aside0.mk (below_step (by repeat (first | (with_reducible first | exact HB.out | apply below_alloc | apply pw_below_drewN | apply below_drew1) | exact HB.out)) hb); have n1_ := Aside0.mk (hbox); have n2_ := Aside0.mk ((by rw [hg]; exact (below_size (by repeat (first | (with_reducible first | exact HB.out | apply below_alloc | apply pw_below_drewN | apply below_drew1) | exact HB.out))) : w.heap.size ≤ gb103)); have n3_ := Aside0.mk ((by rw [hg]; exact (below_size (by repeat (first | (with_reducible first | exact HB.out | apply below_alloc | apply pw_below_drewN | apply below_drew1) | exact HB.out))) : w.heap.size ≤ gb103)); clear HB; have HB := n0_; have BK103 := n1_; have GW103 := n2_; have GE103 := n3_; clear n0_ n1_ n2_ n3_; (try clear hb); (try clear hbox); (try clear hg); have hcz13_0 : w12.cell? ⟨gb103, 0, none⟩ = some (.int .i64 0) := (blk_cell BK103.out 0).trans rfl; have hcz13_1 : w12.cell? ⟨gb103, 1, none⟩ = some (.slice none 0 0) := (blk_cell BK103.out 1).trans rfl; have hcz13_2 : w12.cell? ⟨gb103, 2, none⟩ = some (.slice none 0 0) := (blk_cell BK103.out 2).trans rfl; have hfz13_0 := blk_frozen BK103.out 0; have hfz13_1 := blk_frozen BK103.out 1; have hfz13_2 := blk_frozen BK103.out 2))
         go_ret
         exact ⟨by first | rfl | (simp [errW_none, errW_some] <;> rfl) | (simp [*, errW_none, errW_some] <;> rfl), by repeat (first | (with_reducible first | exact HB.out | apply below_alloc | apply pw_below_drewN | apply below_drew1 | refine below_set ?_ GE103.out) | exact HB.out)⟩
        ·rw [if_neg c11] at H
         have c11b0 : ((wrap64 ((((rd_T28 l0 x8_1).f1).length : Int) + (((rd_T28 l0 x8_1).f2).length : Int))) == 0) = false := beq_eq_false_iff_ne.mpr c11
         have c11b1 : ((wrap64 ((((rd_T28 l0 x8_1).f1).length : Int) + (((rd_T28 l0 x8_1).f2).length : Int))) != 0) = true := bne_iff_ne.mpr c11
         replace H := Option.bind_eq_some_iff.mp H
         obtain ⟨t104, A140, H⟩ := H
         replace H : (if t104 = true then ((edit_all.f k1 ((rd_T28 l0 x8_1).f2)).bind fun t105 => (if t105 = true then (edit_Good.l0 k1 (wrap64 (((rd_T28 l0 x8_1).f0) + (((rd_T28 l0 x8_1).f1).length : Int))) l0 (l0.length : Int) (wrap64 (x8_1 + 1))) else (some false))) else (some false)) = some r := H
         have A14 := Aside0.mk A140
         clear A140
         by_cases c15 : t104 = true
         ·subst c15
          have H1 : ((edit_all.f k1 ((rd_T28 l0 x8_1).f2)).bind fun t105 => (if t105 = true then (edit_Good.l0 k1 (wrap64 (((rd_T28 l0 x8_1).f0) + (((rd_T28 l0 x8_1).f1).length : Int))) l0 (l0.length : Int) (wrap64 (x8_1 + 1))) else (some false))) = some r := by rw [if_pos rfl] at H; exact H
          clear H
          have H := H1
          clear H1
          replace H := Option.bind_eq_some_iff.mp H
          obtain ⟨t105, A160, H⟩ := H
          replace H : (if t105 = true then (edit_Good.l0 k1 (wrap64 (((rd_T28 l0 x8_1).f0) + (((rd_T28 l0 x8_1).f1).length : Int))) l0 (l0.length : Int) (wrap64 (x8_1 + 1))) else (some false)) = some r := H
          have A16 := Aside0.mk A160
          clear A160
          by_cases c17 : t105 = true
          ·subst c17
           have H1 : (edit_Good.l0 k1 (wrap64 (((rd_T28 l0 x8_1).f0) + (((rd_T28 l0 x8_1).f1).length : Int))) l0 (l0.length : Int) (wrap64 (x8_1 + 1))) = some r := by rw [if_pos rfl] at H; exact H
           clear H
           have H := H1
           clear H1
           have H' := Aside0.mk H
           clear H
           have p102 : 0 ≤ (x8_1 : Int) := of_decide_eq_true (by first | (with_reducible assumption) | assumption)
           have q102 : x8_1 < (l0.length : Int) := of_decide_eq_true (by first | (with_reducible assumption) | assumption)
           obtain ⟨ad102, A102_1, c102_1, A102_2, c102_2, e102, hx102_0, hx102_1, hx102_2, hl102_1, hi102_1, hl102_2, hi102_2⟩ := at_T28 HR0.out x8_1 p102 q102
           cases e102
           replace hx102_0 := (HB.out.cell (World.block_lt_of_cell? w _ hx102_0)).trans hx102_0
           replace hx102_1 := (HB.out.cell (World.block_lt_of_cell? w _ hx102_1)).trans hx102_1
           replace hx102_2 := (HB.out.cell (World.block_lt_of_cell? w _ hx102_2)).trans hx102_2
           have HR102_1 := Aside0.mk hi102_1
           have HC102_1 := Aside0.mk hl102_1
           clear hi102_1 hl102_1
           have HR102_2 := Aside0.mk hi102_2
           have HC102_2 := Aside0.mk hl102_2
           clear hi102_2 hl102_2
           replace p102 := eq_true p102
           replace q102 := eq_true q102
           go_wp2_with (first | ((with_reducible refine gate_dst (N := 5) rfl ?_); (try (refine gate_guard (by rfl) ?_; dsimp only)); refine box_event ?hg (N := 5) ?hd (cs := #[.int .i64 0, .slice none 0 0, .slice none 0 0]) (t := 28) ?hr ?_; (case hd => rfl); (case hg => rfl); (case hr => first | (go_simp; done) | (go_simp; rfl)); intro gb103 hg w18 hbox hb; have n0_ := Aside0.mk (below_step (by repeat (first | (with_reducible first | exact HB.out | apply below_alloc | apply pw_below_drewN | apply below_drew1) | exact HB.out)) hb); have n1_ := Aside0.mk (hbox); have n2_ := Aside0.mk ((by rw [hg]; exact (below_size (by repeat (first | (with_reducible first | exact HB.out | apply below_alloc | apply pw_below_drewN | apply below_drew1) | exact HB.out))) : w.heap.size ≤ gb103)); have n3_ := Aside0.mk ((by rw [hg]; exact (below_size (by repeat (first | (with_reducible first | exact HB.out | apply below_alloc | apply pw_below_drewN | apply below_drew1) | exact HB.out))) : w.heap.size ≤ gb103)); clear HB; have HB := n0_; have BK103 := n1_; have GW103 := n2_; have GE103 := n3_; clear n0_ n1_ n2_ n3_; (try clear hb); (try clear hbox); (try clear hg); have hcz19_0 : w18.cell? ⟨gb103, 0, none⟩ = some (.int .i64 0) := (blk_cell BK103.out 0).trans rfl; have hcz19_1 : w18.cell? ⟨gb103, 1, none⟩ = some (.slice none 0 0) := (blk_cell BK103.out 1).trans rfl; have hcz19_2 : w18.cell? ⟨gb103, 2, none⟩ = some (.slice none 0 0) := (blk_cell BK103.out 2).trans rfl; have hfz19_0 := blk_frozen BK103.out 0; have hfz19_1 := blk_frozen BK103.out 1; have hfz19_2 := blk_frozen BK103.out 2) | (go_at_call 33; (with_reducible refine (edit_all.calls k1 _ _ ((rd_T28 l0 x8_1).f1) true _ ?side1 ?side2 A14.out).mono ?_); (case side1 => exact Kd.C_below HR102_1.out (by repeat (first | (with_reducible first | exact HB.out | apply below_alloc | apply pw_below_drewN | apply below_drew1 | refine below_set ?_ GE103.out) | exact HB.out))); (case side2 => exact HC102_1.out); rintro e w' ⟨rfl, ⟨nd, rfl⟩⟩) | (go_at_call 33; (with_reducible refine (edit_all.calls k1 _ _ ((rd_T28 l0 x8_1).f2) true _ ?side1 ?side2 A16.out).mono ?_); (case side1 => exact Kd.C_below HR102_2.out (by repeat (first | (with_reducible first | exact HB.out | apply below_alloc | apply pw_below_drewN | apply below_drew1 | refine below_set ?_ GE103.out) | exact HB.out))); (case side2 => exact HC102_2.out); rintro e w' ⟨rfl, ⟨nd, rfl⟩⟩))
           go_roundg k1
           case measure => have := HK1.out; omega
           case rel => exact ⟨(wrap64 (((rd_T28 l0 x8_1).f0) + (((rd_T28 l0 x8_1).f1).length : Int))), (wrap64 (x8_1 + 1)), (by first | rfl | (simp; done) | (simp [*]; done)), (by first | rfl | (simp; done) | (simp [*]; done)), H', ⟨by have := HK1.out; omega⟩, ⟨by repeat (first | (with_reducible first | exact HB.out | apply below_alloc | apply pw_below_drewN | apply below_drew1 | refine below_set ?_ GE103.out) | exact HB.out)⟩⟩
          ·replace c17 := Bool.eq_false_iff.mpr c17
           subst c17
           have H1 : (some false) = some r := by rw [if_neg (show ¬ (false = true) by decide)] at H; exact H
           clear H
           have H := H1
           clear H1
           obtain rfl := Option.some.inj H
           have p102 : 0 ≤ (x8_1 : Int) := of_decide_eq_true (by first | (with_reducible assumption) | assumption)
           have q102 : x8_1 < (l0.length : Int) := of_decide_eq_true (by first | (with_reducible assumption) | assumption)
           obtain ⟨ad102, A102_1, c102_1, A102_2, c102_2, e102, hx102_0, hx102_1, hx102_2, hl102_1, hi102_1, hl102_2, hi102_2⟩ := at_T28 HR0.out x8_1 p102 q102
           cases e102
           replace hx102_0 := (HB.out.cell (World.block_lt_of_cell? w _ hx102_0)).trans hx102_0
           replace hx102_1 := (HB.out.cell (World.block_lt_of_cell? w _ hx102_1)).trans hx102_1
           replace hx102_2 := (HB.out.cell (World.block_lt_of_cell? w _ hx102_2)).trans hx102_2
           have HR102_1 := Aside0.mk hi102_1
           have HC102_1 := Aside0.mk hl102_1
           clear hi102_1 hl102_1
           have HR102_2 := Aside0.mk hi102_2
           have HC102_2 := Aside0.mk hl102_2
           clear hi102_2 hl102_2
           replace p102 := eq_true p102
           replace q102 := eq_true q102
           go_wp2_with (first | ((with_reducible refine gate_dst (N := 5) rfl ?_); (try (refine gate_guard (by rfl) ?_; dsimp only)); refine box_event ?hg (N := 5) ?hd (cs := #[.int .i64 0, .slice none 0 0, .slice none 0 0]) (t := 28) ?hr ?_; (case hd => rfl); (case hg => rfl); (case hr => first | (go_simp; done) | (go_simp; rfl)); intro gb103 hg w20 hbox hb; have n0_ := Aside0.mk (below_step (by repeat (first | (with_reducible first | exact HB.out | apply below_alloc | apply pw_below_drewN | apply below_drew1) | exact HB.out)) hb); have n1_ := Aside0.mk (hbox); have n2_ := Aside0.mk ((by rw [hg]; exact (below_size (by repeat (first | (with_reducible first | exact HB.out | apply below_alloc | apply pw_below_drewN | apply below_drew1) | exact HB.out))) : w.heap.size ≤ gb103)); have n3_ := Aside0.mk ((by rw [hg]; exact (below_size (by repeat (first | (with_reducible first | exact HB.out | apply below_alloc | apply pw_below_drewN | apply below_drew1) | exact HB.out))) : w.heap.size ≤ gb103)); clear HB; have HB := n0_; have BK103 := n1_; have GW103 := n2_; have GE103 := n3_; clear n0_ n1_ n2_ n3_; (try clear hb); (try clear hbox); (try clear hg); have hcz21_0 : w20.cell? ⟨gb103, 0, none⟩ = some (.int .i64 0) := (blk_cell BK103.out 0).trans rfl; have hcz21_1 : w20.cell? ⟨gb103, 1, none⟩ = some (.slice none 0 0) := (blk_cell BK103.out 1).trans rfl; have hcz21_2 : w20.cell? ⟨gb103, 2, none⟩ = some (.slice none 0 0) := (blk_cell BK103.out 2).trans rfl; have hfz21_0 := blk_frozen BK103.out 0; have hfz21_1 := blk_frozen BK103.out 1; have hfz21_2 := blk_frozen BK103.out 2) | (go_at_call 33; (with_reducible refine (edit_all.calls k1 _ _ ((rd_T28 l0 x8_1).f1) true _ ?side1 ?side2 A14.out).mono ?_); (case side1 => exact Kd.C_below HR102_1.out (by repeat (first | (with_reducible first | exact HB.out | apply below_alloc | apply pw_below_drewN | apply below_drew1 | refine below_set ?_ GE103.out) | exact HB.out))); (case side2 => exact HC102_1.out); rintro e w' ⟨rfl, ⟨nd, rfl⟩⟩) | (go_at_call 33; (with_reducible refine (edit_all.calls k1 _ _ ((rd_T28 l0 x8_1).f2) false _ ?side1 ?side2 A16.out).mono ?_); (case side1 => exact Kd.C_below HR102_2.out (by repeat (first | (with_reducible first | exact HB.out | apply below_alloc | apply pw_below_drewN | apply below_drew1 | refine below_set ?_ GE103.out) | exact HB.out))); (case side2 => exact HC102_2.out); rintro e w' ⟨rfl, ⟨nd, rfl⟩⟩))
           go_ret
           exact ⟨by first | rfl | (simp [errW_none, errW_some] <;> rfl) | (simp [*, errW_none, errW_some] <;> rfl), by repeat (first | (with_reducible first | exact HB.out | apply below_alloc | apply pw_below_drewN | apply below_drew1 | refine below_set ?_ GE103.out) | exact HB.out)⟩
         ·replace c15 := Bool.eq_false_iff.mpr c15
          subst c15
          have H1 : (some false) = some r := by rw [if_neg (show ¬ (false = true) by decide)] at H; exact H
          clear H
          have H := H1
          clear H1
          obtain rfl := Option.some.inj H
          have p102 : 0 ≤ (x8_1 : Int) := of_decide_eq_true (by first | (with_reducible assumption) | assumption)
          have q102 : x8_1 < (l0.length : Int) := of_decide_eq_true (by first | (with_reducible assumption) | assumption)
          obtain ⟨ad102, A102_1, c102_1, A102_2, c102_2, e102, hx102_0, hx102_1, hx102_2, hl102_1, hi102_1, hl102_2, hi102_2⟩ := at_T28 HR0.out x8_1 p102 q102
          cases e102
          replace hx102_0 := (HB.out.cell (World.block_lt_of_cell? w _ hx102_0)).trans hx102_0
          replace hx102_1 := (HB.out.cell (World.block_lt_of_cell? w _ hx102_1)).trans hx102_1
          replace hx102_2 := (HB.out.cell (World.block_lt_of_cell? w _ hx102_2)).trans hx102_2
          have HR102_1 := Aside0.mk hi102_1
          have HC102_1 := Aside0.mk hl102_1
          clear hi102_1 hl102_1
          have HR102_2 := Aside0.mk hi102_2
          have HC102_2 := Aside0.mk hl102_2
          clear hi102_2 hl102_2
          replace p102 := eq_true p102
          replace q102 := eq_true q102
          go_wp2_with (first | ((with_reducible refine gate_dst (N := 5) rfl ?_); (try (refine gate_guard (by rfl) ?_; dsimp only)); refine box_event ?hg (N := 5) ?hd (cs := #[.int .i64 0, .slice none 0 0, .slice none 0 0]) (t := 28) ?hr ?_; (case hd => rfl); (case hg => rfl); (case hr => first | (go_simp; done) | (go_simp; rfl)); intro gb103 hg w22 hbox hb; have n0_ := Aside0.mk (below_step (by repeat (first | (with_reducible first | exact HB.out | apply below_alloc | apply pw_below_drewN | apply below_drew1) | exact HB.out)) hb); have n1_ := Aside0.mk (hbox); have n2_ := Aside0.mk ((by rw [hg]; exact (below_size (by repeat (first | (with_reducible first | exact HB.out | apply below_alloc | apply pw_below_drewN | apply below_drew1) | exact HB.out))) : w.heap.size ≤ gb103)); have n3_ := Aside0.mk ((by rw [hg]; exact (below_size (by repeat (first | (with_reducible first | exact HB.out | apply below_alloc | apply pw_below_drewN | apply below_drew1) | exact HB.out))) : w.heap.size ≤ gb103)); clear HB; have HB := n0_; have BK103 := n1_; have GW103 := n2_; have GE103 := n3_; clear n0_ n1_ n2_ n3_; (try clear hb); (try clear hbox); (try clear hg); have hcz23_0 : w22.cell? ⟨gb103, 0, none⟩ = some (.int .i64 0) := (blk_cell BK103.out 0).trans rfl; have hcz23_1 : w22.cell? ⟨gb103, 1, none⟩ = some (.slice none 0 0) := (blk_cell BK103.out 1).trans rfl; have hcz23_2 : w22.cell? ⟨gb103, 2, none⟩ = some (.slice none 0 0) := (blk_cell BK103.out 2).trans rfl; have hfz23_0 := blk_frozen BK103.out 0; have hfz23_1 := blk_frozen BK103.out 1; have hfz23_2 := blk_frozen BK103.out 2) | (go_at_call 33; (with_reducible refine (edit_all.calls k1 _ _ ((rd_T28 l0 x8_1).f1) false _ ?side1 ?side2 A14.out).mono ?_); (case side1 => exact Kd.C_below HR102_1.out (by repeat (first | (with_reducible first | exact HB.out | apply below_alloc | apply pw_below_drewN | apply below_drew1 | refine below_set ?_ GE103.out) | exact HB.out))); (case side2 => exact HC102_1.out); rintro e w' ⟨rfl, ⟨nd, rfl⟩⟩))
          go_ret
          exact ⟨by first | rfl | (simp [errW_none, errW_some] <;> rfl) | (simp [*, errW_none, errW_some] <;> rfl), by repeat (first | (with_reducible first | exact HB.out | apply below_alloc | apply pw_below_drewN | apply below_drew1 | refine below_set ?_ GE103.out) | exact HB.out)⟩
     ·rw [if_neg c4] at H
      exact absurd H (by simp)
    ·rw [if_neg c3] at H
     exact absurd H (by simp)
   ·rw [if_neg c2] at H
    have c2b0 : decide (x8_1 < (l0.length : Int)) = false := decide_eq_false c2
    clear c2
    obtain rfl := Option.some.inj H
    go_wp2
    go_ret
    exact ⟨by first | rfl | (simp [errW_none, errW_some] <;> rfl) | (simp [*, errW_none, errW_some] <;> rfl), by repeat (first | (with_reducible first | exact HB.out | apply below_alloc | apply pw_below_drewN | apply below_drew1) | exact HB.out)⟩

/-! ### bytes_Equal: function 35 -/
def bytes_Equal.f (l0 : List Int) (l1 : List Int) : Option (Bool) := some ((strOfNums l0).toList == (strOfNums l1).toList)
set_option maxHeartbeats 8000000 in
set_option maxRecDepth 100000 in
theorem bytes_Equal.calls (A0 : Option Addr) (c0 : Nat) (l0 : List Int) (A1 : Option Addr) (c1 : Nat) (l1 : List Int) (r : Bool) (w : World) (hr0 : Kd.C (Kd.int .u8) w A0 l0.length l0) (hc0 : l0.length ≤ c0) (hr1 : Kd.C (Kd.int .u8) w A1 l1.length l1) (hc1 : l1.length ≤ c1) (h : bytes_Equal.f l0 l1 = some r) :
  Calls Try.prog 35 #[.slice A0 l0.length c0, .slice A1 l1.length c1] w fun e w' => e = .returned (.bool r) ∧ Drawn0 w w' := by
 have HR0 := Aside0.mk hr0
 have HC0 := Aside0.mk hc0
 clear hr0 hc0
 have HR1 := Aside0.mk hr1
 have HC1 := Aside0.mk hc1
 clear hr1 hc1
 have H : (some ((strOfNums l0).toList == (strOfNums l1).toList)) = some r := h
 clear h
 obtain rfl := Option.some.inj H
 have hcv3 := Kd.C_string (P := Try.prog) (A := A0) (c := c0) Try.underlying22 Try.underlying5 Try.underlying9 HR0.out
 have hcvd4 := fun nd_ => Kd.C_string (P := Try.prog) (A := A0) (c := c0) Try.underlying22 Try.underlying5 Try.underlying9 (Kd.C_drewN HR0.out nd_)
 have hcv5 := Kd.C_string (P := Try.prog) (A := A1) (c := c1) Try.underlying22 Try.underlying5 Try.underlying9 HR1.out
 have hcvd6 := fun nd_ => Kd.C_string (P := Try.prog) (A := A1) (c := c1) Try.underlying22 Try.underlying5 Try.underlying9 (Kd.C_drewN HR1.out nd_)
 go_enter Try.func35, Try.ntmps35
 go_wp2
 go_ret
 exact ⟨by first | rfl | (simp; done) | (simp [*]; done), by repeat (first | exact Drawn0.refl _ | apply Drawn0.step)⟩

theorem info22_ : (Try.prog.info? 22).map (fun i => (i.zero, i.size, i.bytes)) = some (some (.slice none 0 0), 1, 24) := by kernel_rfl
/-- Two lists of tokens, token by token. -/
theorem drewN_below {B : Nat} {a w : World} (h : Below B a w) (n : Nat) : Below B a (w.drewN n) := h.trans ⟨rfl, rfl, rfl, Nat.le_refl _, fun _ _ => rfl⟩
theorem drop_at28 {s : List S28} {j : Nat} (h : j < s.length) : s.drop j = s.getD j z28 :: s.drop (j + 1) := by
 rw [List.drop_eq_getElem_cons h]; simp [List.getD_eq_getElem?_getD, h]

/-! ### by hand: functions 34, 24 -/
def tokEqs : List (List Int) → List (List Int) → Bool
 | [], [] => true
 | x :: xs, y :: ys => ((strOfNums x).toList == (strOfNums y).toList) && tokEqs xs ys
 | _, _ => false
theorem tokEqs_at (xs ys : List (List Int)) (j : Nat) (h : j < xs.length) (h' : j < ys.length) : tokEqs (xs.drop j) (ys.drop j) = (((strOfNums (xs.getD j [])).toList == (strOfNums (ys.getD j [])).toList) && tokEqs (xs.drop (j + 1)) (ys.drop (j + 1))) := by
 rw [List.drop_eq_getElem_cons h, List.drop_eq_getElem_cons h']
 simp [tokEqs, List.getD_eq_getElem?_getD, h, h']
theorem tokEqs_len : ∀ (xs ys : List (List Int)), xs.length ≠ ys.length → tokEqs xs ys = false
 | [], [], h => absurd rfl h
 | x :: xs, y :: ys, h => by
  rw [tokEqs, tokEqs_len xs ys (by simpa using h), Bool.and_false]
 | [], _ :: _, _ => rfl
 | _ :: _, [], _ => rfl
set_option maxHeartbeats 8000000 in
theorem slices_EqualFunc.calls (A0 : Option Addr) (c0 : Nat) (l0 : List (List Int)) (A1 : Option Addr) (c1 : Nat) (l1 : List (List Int)) (w : World) (hr0 : Kd.C (Kd.slice 5 (Kd.int .u8)) w A0 l0.length l0) (hc0 : l0.length ≤ c0) (hr1 : Kd.C (Kd.slice 5 (Kd.int .u8)) w A1 l1.length l1) (hc1 : l1.length ≤ c1) :
  Calls Try.prog 34 #[.slice A0 l0.length c0, .slice A1 l1.length c1, .func (.func 35) #[] #[]] w fun e w' => e = .returned (.bool (tokEqs l0 l1)) ∧ Drawn0 w w' := by
 have HR0 := Aside0.mk hr0
 have HR1 := Aside0.mk hr1
 have hm0 := Kd.C_max hr0
 have hm1 := Kd.C_max hr1
 clear hr0 hc0 hr1 hc1
 by_cases hlen : l0.length = l1.length
 ·have hle : l0.length ≤ l1.length := by omega
  have hge : l1.length ≤ l0.length := by omega
  have hb : ((l0.length : Int) != (l1.length : Int)) = false := by simp [hlen]
  have hb2 : (l0.length != l1.length) = false := by simp [hlen]
  clear hlen
  go_enter Try.func34, Try.ntmps34
  go_wp2
  go_loopw [17] (fun v w' => ∃ j : Nat, j ≤ l0.length ∧ v = .int .i64 j ∧ Aside0 (tokEqs (l0.drop j) (l1.drop j) = tokEqs l0 l1) ∧ Drawn0 w w') (fun v _ => l0.length - (intOf v).toNat)
  case atStart => exact ⟨0, Nat.zero_le _, rfl, ⟨rfl⟩, Drawn0.refl _⟩
  case round =>
   obtain ⟨j, hj, rfl, HE, ⟨m1, rfl⟩⟩ := hrel
   by_cases hjl : j < l0.length
   ·have hjl1 : j < l1.length := by omega
    obtain ⟨ad0, B0, d0, rfl, hx0, hl0, hi0⟩ := at_L1 HR0.out (j : Int) (by omega) (by omega)
    obtain ⟨ad1, B1, d1, rfl, hx1, hl1, hi1⟩ := at_L1 HR1.out (j : Int) (by omega) (by omega)
    simp only [Int.toNat_natCast] at hx0 hx1
    have HI0 := Aside0.mk hi0
    have HI1 := Aside0.mk hi1
    have HL0 := Aside0.mk hl0
    have HL1 := Aside0.mk hl1
    have hat := tokEqs_at l0 l1 j hjl hjl1
    have e0 : rd_L1 l0 (j : Int) = l0.getD j [] := rfl
    have e1 : rd_L1 l1 (j : Int) = l1.getD j [] := rfl
    rw [← e0, ← e1, HE.out] at hat
    generalize rd_L1 l0 (j : Int) = x at hx0 HI0 HL0 hat
    generalize rd_L1 l1 (j : Int) = y at hx1 HI1 HL1 hat
    have HAT := Aside0.mk hat
    clear hi0 hi1 hl0 hl1 hat e0 e1
    generalize hq : ((strOfNums x).toList == (strOfNums y).toList) = q at HAT
    have HQ := Aside0.mk (show bytes_Equal.f x y = some q by unfold bytes_Equal.f; rw [hq])
    clear hq
    cases q with
    | true =>
     go_wp2_with (go_at_call 35; (with_reducible refine (bytes_Equal.calls _ _ x _ _ y true _ (Kd.C_drewN HI0.out _) HL0.out (Kd.C_drewN HI1.out _) HL1.out HQ.out).mono ?_); rintro e w2 ⟨rfl, ⟨m2, rfl⟩⟩)
     go_roundw
     case rel => exact ⟨j + 1, by omega, by go_num, ⟨by have h_ := HAT.out; rw [Bool.true_and] at h_; exact h_.symm⟩, (Drawn0.step (Drawn0.refl w) (m1 + m2))⟩
     case measure => simp [intOf]; omega
    | false =>
     go_wp2_with (go_at_call 35; (with_reducible refine (bytes_Equal.calls _ _ x _ _ y false _ (Kd.C_drewN HI0.out _) HL0.out (Kd.C_drewN HI1.out _) HL1.out HQ.out).mono ?_); rintro e w2 ⟨rfl, ⟨m2, rfl⟩⟩)
     go_ret
     exact ⟨by have h_ := HAT.out; rw [Bool.false_and] at h_; rw [h_]; rfl, (Drawn0.step (Drawn0.refl w) (m1 + m2))⟩
   ·go_wp2
    go_ret
    have : j = l0.length := by omega
    subst this
    refine ⟨?_, Drawn0.step (Drawn0.refl w) m1⟩
    rw [← HE.out, List.drop_of_length_le (Nat.le_refl _), List.drop_of_length_le (by omega)]
    rfl
 ·have hb : ((l0.length : Int) != (l1.length : Int)) = true := by simp; omega
  have hb2 : (l0.length != l1.length) = true := by simp [hlen]
  have he := tokEqs_len l0 l1 hlen
  rw [he]
  clear he hlen
  go_enter Try.func34, Try.ntmps34
  go_wp2
  go_ret
  exact ⟨rfl, Drawn0.refl _⟩
/-- A cut of a row that is read. -/
theorem cut_row {l : List (List Int)} {A : Option Addr} {c : Nat} (hc : l.length ≤ c) {lo hi : Nat} (h1 : lo ≤ hi) (h2 : hi ≤ l.length) :
  ∃ A' : Option Addr, (∀ W : World, (Instr.slice 23 (.slice A l.length c) (some (.int .i64 (lo : Int))) (some (.int .i64 (hi : Int))) none).run Try.prog W = .ok (.slice A' ((l.take hi).drop lo).length (c - lo)) W) ∧ ((l.take hi).drop lo).length ≤ c - lo ∧
   ∀ w : World, Kd.C (Kd.slice 5 (Kd.int .u8)) w A l.length l → Kd.C (Kd.slice 5 (Kd.int .u8)) w A' ((l.take hi).drop lo).length ((l.take hi).drop lo) := by
 obtain ⟨i0, hi0, hz0, hz1, hz2⟩ := info_parts info22_
 have hlen : ((l.take hi).drop lo).length = hi - lo := by rw [List.length_drop, List.length_take]; omega
 refine ⟨if c = lo then A else A.map (·.add (lo * 1)), fun W => ?_, by omega, fun w h => Kd.C_mid h h1 h2 hc⟩
 have h := cut_mid (P := Try.prog) 23 22 .i64 .i64 Try.underlying23 hi0 1 hz1 A l.length c (lo : Int) (hi : Int) (by omega) (by omega) (by omega) hc W
 rw [hlen]
 exact h
theorem cut_end {l : List (List Int)} {A : Option Addr} {c : Nat} (hc : l.length ≤ c) {lo : Nat} (h2 : lo ≤ l.length) :
  ∃ A' : Option Addr, (∀ W : World, (Instr.slice 23 (.slice A l.length c) (some (.int .i64 (lo : Int))) none none).run Try.prog W = .ok (.slice A' (l.drop lo).length (c - lo)) W) ∧ (l.drop lo).length ≤ c - lo ∧
   ∀ w : World, Kd.C (Kd.slice 5 (Kd.int .u8)) w A l.length l → Kd.C (Kd.slice 5 (Kd.int .u8)) w A' (l.drop lo).length (l.drop lo) := by
 obtain ⟨i0, hi0, hz0, hz1, hz2⟩ := info_parts info22_
 have hlen : (l.drop lo).length = l.length - lo := by rw [List.length_drop]
 refine ⟨if c = lo then A else A.map (·.add (lo * 1)), fun W => ?_, by omega, fun w h => Kd.C_drop h h2 hc⟩
 have h := cut_from (P := Try.prog) 23 22 .i64 Try.underlying23 hi0 1 hz1 A l.length c (lo : Int) (by omega) (by omega) W
 rw [hlen]
 exact h
def patch_stands.f (l0 l1 : List (List Int)) (a : Int) : Option Bool := if 0 ≤ a then (if a ≤ (l0.length : Int) then (if (l1.length : Int) ≤ (l0.length : Int) - a then some (tokEqs ((l0.take (a.toNat + l1.length)).drop a.toNat) l1) else some false) else some false) else none
set_option maxHeartbeats 8000000 in
theorem patch_stands.calls (A0 : Option Addr) (c0 : Nat) (l0 : List (List Int)) (A1 : Option Addr) (c1 : Nat) (l1 : List (List Int)) (a2 : Int) (r : Bool) (w : World) (hr0 : Kd.C (Kd.slice 5 (Kd.int .u8)) w A0 l0.length l0) (hc0 : l0.length ≤ c0) (hr1 : Kd.C (Kd.slice 5 (Kd.int .u8)) w A1 l1.length l1) (hc1 : l1.length ≤ c1) (h : patch_stands.f l0 l1 a2 = some r) :
  Calls Try.prog 24 #[.slice A0 l0.length c0, .slice A1 l1.length c1, .int .i64 a2] w fun e w' => e = .returned (.bool r) ∧ Drawn0 w w' := by
 have HR0 := Aside0.mk hr0
 have HR1 := Aside0.mk hr1
 have HC0 := Aside0.mk hc0
 have HC1 := Aside0.mk hc1
 have hm0 := Kd.C_max hr0
 have hm1 := Kd.C_max hr1
 clear hr0 hc0 hr1 hc1
 unfold patch_stands.f at h
 by_cases h0 : 0 ≤ a2
 ·rw [if_pos h0] at h
  obtain ⟨a, rfl⟩ := Int.eq_ofNat_of_zero_le h0
  by_cases h1 : (a : Int) ≤ (l0.length : Int)
  ·rw [if_pos h1] at h
   by_cases h2 : (l1.length : Int) ≤ (l0.length : Int) - a
   ·rw [if_pos h2, Int.toNat_natCast] at h
    obtain rfl := Option.some.inj h
    clear h
    obtain ⟨A', hcut, hcl, hC'⟩ := cut_row (A := A0) HC0.out (lo := a) (hi := a + l1.length) (by omega) (by omega)
    have HC' := Aside0.mk (hC' w HR0.out)
    have HCL := Aside0.mk hcl
    clear hC' hcl
    generalize (l0.take (a + l1.length)).drop a = y at hcut HC' HCL
    simp only [Int.natCast_add] at hcut
    have d1 : decide (a ≤ l0.length) = true := decide_eq_true (by omega)
    go_enter Try.func24, Try.ntmps24
    go_wp2_with (go_at_call 34; go_loud ((with_reducible refine (slices_EqualFunc.calls _ _ y _ _ l1 _ HC'.out HCL.out HR1.out HC1.out).mono ?_); rintro e w2 ⟨rfl, ⟨m2, rfl⟩⟩))
    go_ret
    exact ⟨rfl, Drawn0.step (Drawn0.refl w) m2⟩
   ·rw [if_neg h2] at h
    obtain rfl := Option.some.inj h
    clear h
    have d1 : decide (a ≤ l0.length) = true := decide_eq_true (by omega)
    have d2 : decide ((l1.length : Int) ≤ (l0.length : Int) - (a : Int)) = false := decide_eq_false h2
    go_enter Try.func24, Try.ntmps24
    go_wp2_with fail
    go_ret
    exact ⟨rfl, Drawn0.refl w⟩
  ·rw [if_neg h1] at h
   obtain rfl := Option.some.inj h
   clear h
   have d1 : decide (a ≤ l0.length) = false := decide_eq_false (by omega)
   go_enter Try.func24, Try.ntmps24
   go_wp2_with fail
   go_ret
   exact ⟨rfl, Drawn0.refl w⟩
 ·rw [if_neg h0] at h
  cases h

/-! ### bytes_Clone: function 36, by hand -/
/-- The cells of a row of bytes. -/
theorem cells_u8 {w : World} {a : Addr} {n : Nat} {xs : List Int} (h : Kd.C (Kd.int .u8) w (some a) n xs) : ∀ i, i < n → w.cell? (a.add i) = some (.int .u8 (xs.getD i 0)) := by
 intro i hi
 obtain ⟨ad, e, hc⟩ := (Kd.reads_of_C (d := (0 : Int)) h).2.2 (by omega)
 obtain rfl := Option.some.inj e
 exact hc i hi
theorem none_u8 {w : World} {n : Nat} {xs : List Int} (h : Kd.C (Kd.int .u8) w none n xs) : xs = [] := by
 have h := Kd.reads_of_C (d := (0 : Int)) h
 rcases Nat.eq_zero_or_pos n with h0 | h0
 ·exact List.eq_nil_of_length_eq_zero (by rw [h.1, h0])
 ·obtain ⟨ad, e, _⟩ := h.2.2 h0
  cases e
def bytes_Clone.f (l0 : List Int) : Option (List Int) := if l0.length < 140737488355328 then some l0 else none
set_option maxHeartbeats 2000000 in
set_option maxRecDepth 100000 in
theorem bytes_Clone.calls (A0 : Option Addr) (c0 : Nat) (l0 : List Int) (r : List Int) (w : World) (hr0 : Kd.C (Kd.int .u8) w A0 l0.length l0) (hc0 : l0.length ≤ c0) (h : bytes_Clone.f l0 = some r) :
  Calls Try.prog 36 #[.slice A0 l0.length c0] w fun e w' => ∃ v0_ : Value, e = .returned (v0_) ∧ Kd.R (Kd.int .u8) 5 w' w.heap.size (fun _ => True) v0_ r ∧ Below w.heap.size w w' := by
 have hl : l0.length < 140737488355328 := by
  unfold bytes_Clone.f at h; split at h <;> first | assumption | cases h
 have hr : l0 = r := by unfold bytes_Clone.f at h; rw [if_pos hl] at h; exact Option.some.inj h
 subst hr; clear h
 have q22 : ∀ (w : World) (a : Option Addr) (n c n' c' : Nat), (binOp .eql 22 (.slice a n c) (.slice none n' c')).run Try.prog w = .ok (.bool a.isNone) w := fun w a n c n' c' => Lib.run_eql_slice_nil w _ _ a n c n' c' Try.underlying22
 cases A0 with
 | none =>
  have h0 := none_u8 hr0
  subst h0
  go_enter Try.func36, Try.ntmps36
  go_wp2
  go_ret
  exact ⟨_, rfl, Kd.R_nil _ _ _ _ _, Below.refl _ _⟩
 | some a =>
  have A : Aside0 (∀ i, i < l0.length → w.cell? (a.add i) = some (.int .u8 (l0.getD i 0))) := ⟨cells_u8 hr0⟩
  clear hr0
  have u22 : ∀ w, Sem.run Try.prog (underlying 22) w = .ok (TypeDesc.slice 5) w := run_underlying Try.underlying22
  obtain ⟨i0, hi, hz0, hz1, hz2⟩ := info_parts info5
  have z5 : ∀ w, Sem.run Try.prog (Go.sizeOf 5) w = .ok 1 w := fun w => by simp [Go.sizeOf, typeInfo, hi, hz1]
  go_enter Try.func36, Try.ntmps36
  go_wp2_with (at_builtin; refine wpList_append_own _ rfl _ _ 22 rfl w.heap.size 5 i0 (.int .u8 0) 1 1 Try.underlying22 hi hz0 hz1 hz2 rfl (by decide) _ _ _ rfl (World.ownsRow_made w #[] 0 (Nat.le_refl _) (Nat.zero_le _) rfl) a l0.length c0 (l0.map (Value.int .u8)) rfl ?qc1 ?qc2 ?qc3 ?qc4 ?qc5 ?qc6 ?_)
  case qc1 => simp
  case qc2 =>
   intro j u hj
   have hjn : j < l0.length := by
    have := (List.getElem?_eq_some_iff.1 hj).1
    simp at this
    omega
   refine Lib.cell?_alloc_some _ ?_
   rw [A.out j hjn]
   have e : (l0.map (Value.int .u8))[j]? = some (Value.int .u8 (l0.getD j 0)) := by simp [List.getD, List.getElem?_eq_getElem hjn]
   rw [e] at hj
   exact hj
  case qc3 => intro u hu; obtain ⟨x, _, rfl⟩ := List.mem_map.1 hu; rfl
  case qc4 => unfold maxLen; omega
  case qc5 => omega
  case qc6 => simp
  intro v' w1 hown hgrow hnil
  go_wp2
  go_ret
  refine ⟨v', rfl, Kd.R_of_own (enc := Value.int .u8) (h1 := fun _ => rfl) (by simpa [encs] using hown) (fun _ _ => trivial), ?_⟩
  exact ((Below.refl _ w).alloc (Nat.le_refl _) _).grown hgrow (by simp) (by intro k hk; simp [Value.ownBlock] at hk; omega)

/-! ### by hand: function 25 -/
def tokOk (l : List (List Int)) : Bool := l.all fun t => decide (t.length < 140737488355328)
theorem tokOk_at {l : List (List Int)} (h : tokOk l = true) {j : Nat} (hj : j < l.length) : (l.getD j []).length < 140737488355328 := by
 have h1 := List.all_eq_true.1 h (l.getD j []) (by rw [List.getD_eq_getElem?_getD, List.getElem?_eq_getElem hj]; exact List.getElem_mem hj)
 simpa using h1
def patch_more.f (l0 l1 : List (List Int)) : Option (List (List Int)) := if l0.length + l1.length < 100000000 then (if tokOk l1 = true then some (l0 ++ l1) else none) else none
theorem take_next {l : List (List Int)} {j : Nat} (h : j < l.length) : l.take (j + 1) = l.take j ++ [l.getD j []] := by
 rw [List.take_succ_eq_append_getElem h]
 simp [List.getD_eq_getElem?_getD, h]
set_option maxHeartbeats 8000000 in
theorem patch_more.calls (B : World) (v : Value) (l0 : List (List Int)) (A1 : Option Addr) (c1 : Nat) (l1 : List (List Int)) (r : List (List Int)) (w : World) (hB : Below B.heap.size B w) (ho : Kd.R (Kd.slice 5 (Kd.int .u8)) 22 w B.heap.size (fun _ => True) v l0) (hr1 : Kd.C (Kd.slice 5 (Kd.int .u8)) B A1 l1.length l1) (hc1 : l1.length ≤ c1) (h : patch_more.f l0 l1 = some r) :
  Calls Try.prog 25 #[v, .slice A1 l1.length c1] w fun e w' => ∃ v0_ : Value, e = .returned v0_ ∧ Kd.R (Kd.slice 5 (Kd.int .u8)) 22 w' B.heap.size (fun _ => True) v0_ r ∧ Below B.heap.size B w' ∧ Kept w w' (fun k_ => some k_ = v.ownBlock) ∧ (v0_.ownBlock = v.ownBlock ∨ ∃ b, v0_.ownBlock = some b ∧ w.heap.size ≤ b) := by
 unfold patch_more.f at h
 by_cases hlen : l0.length + l1.length < 100000000
 ·rw [if_pos hlen] at h
  by_cases hall : tokOk l1 = true
  ·rw [if_pos hall] at h
   obtain rfl := Option.some.inj h
   clear h
   have HR1 := Aside0.mk hr1
   have HC1 := Aside0.mk hc1
   have HB := Aside0.mk hB
   have HO := Aside0.mk ho
   have HALL := Aside0.mk hall
   clear hr1 hc1 hB ho hall
   go_enter Try.func25, Try.ntmps25
   go_wp2
   go_loopw [0, 9] (fun s0 ix wr => ∃ (j : Nat) (vj : Value), j ≤ l1.length ∧ ix = .int .i64 j ∧ vj = s0 ∧ Aside0 (Kd.R (Kd.slice 5 (Kd.int .u8)) 22 wr B.heap.size (fun _ => True) vj (l0 ++ l1.take j)) ∧ Aside0 (Below B.heap.size B wr) ∧ Aside0 (Kept w wr (fun k_ => some k_ = v.ownBlock)) ∧ Aside0 (vj.ownBlock = v.ownBlock ∨ ∃ b, vj.ownBlock = some b ∧ w.heap.size ≤ b)) (fun _ ix _ => l1.length - (intOf ix).toNat)
   case atStart => exact ⟨0, v, Nat.zero_le _, rfl, rfl, ⟨by rw [List.take_zero, List.append_nil]; exact HO.out⟩, HB, ⟨Kept.refl _ _⟩, ⟨.inl rfl⟩⟩
   case round =>
    clear HO HB
    obtain ⟨j, vj, hj, rfl, rfl, HO, HB, HK, HAT⟩ := hrel
    by_cases hjl : j < l1.length
    ·obtain ⟨ad, At, ct, rfl, hx, hl, hi⟩ := at_L1 HR1.out (j : Int) (by omega) (by omega)
     have hi2 := Kd.C_below hi HB.out
     have hx2 := pw_cell_below HB.out hx
     simp only [Int.toNat_natCast] at hx2
     have e0 : rd_L1 l1 (j : Int) = l1.getD j [] := rfl
     have ht := tokOk_at HALL.out hjl
     have hn := take_next hjl
     rw [← e0] at ht hn
     generalize rd_L1 l1 (j : Int) = t at hx2 hi2 hl ht hn
     have HI := Aside0.mk hi2
     have HL := Aside0.mk hl
     have HT := Aside0.mk (show bytes_Clone.f t = some t by unfold bytes_Clone.f; rw [if_pos ht])
     have HNX := Aside0.mk hn
     clear hi hx hl hi2 ht hn e0
     have hlj : (l0 ++ l1.take j).length + 1 < 100000001 := by rw [List.length_append, List.length_take]; omega
     have HLJ := Aside0.mk hlj
     clear hlj
     go_wp2_with (first
      | (go_at_call 36; go_loud ((with_reducible refine (bytes_Clone.calls _ _ t t _ HI.out HL.out HT.out).mono ?_); rintro e w2 ⟨vt, rfl, ho0, hb⟩; have n0_ := Aside0.mk (below_step HB.out hb); have n1_ := Aside0.mk (Kd.R_below HO.out hb); have n2_ := Aside0.mk (HK.out.below hb); have HV := Aside0.mk (Kd.R_mono (Kd.R_lower (Kd.R_bound ho0) HB.out.size) (ok' := fun k_ => wr.heap.size ≤ k_) (fun _ hk => hk.2.1)); have HVL := Aside0.mk (Kd.R_lt HO.out); obtain ⟨Av, cv, rfl⟩ := Kd.R_slice ho0; clear HB HO HK ho0 hb; have HB := n0_; have HO := n1_; have HK := n2_; clear n0_ n1_ n2_))
      | ((with_reducible refine gate_builtin (b := .append) (xs := #[.tmp 13, .tmp 16]) rfl ?_); at_builtin; go_loud (refine Kd.R_append (Kd.slice 5 (Kd.int .u8)) (w0 := B) B.heap.size rfl (.tmp 13) (.tmp 16) 23 22 (.slice none 0 0) 24 rfl Try.underlying23 info22_ rfl (by decide) (by omega) vj (l0 ++ l1.take j) t [.slice Av t.length cv] (fun _ => True) (fun k_ => wr.heap.size ≤ k_) rfl rfl (Kd.M_row HV.out) (fun k_ hk => ⟨trivial, fun e_ => by have := HVL.out k_ e_.symm; omega⟩) (fun _ _ => trivial) HO.out HB.out HB.out.size (by have := HLJ.out; omega) ?_; intro v3 w3 ho hb hg hat; rw [List.append_assoc, ← HNX.out] at ho; have n2_ := Aside0.mk (Kept.of_grown hg HK.out (fun k_ e_ => by rcases HAT.out with h_ | ⟨b_, h_, hle_⟩; exact .inl (by rw [← h_]; exact e_.symm); exact .inr (by rw [h_] at e_; injection e_ with e_; omega))); have n3_ := Aside0.mk (show v3.ownBlock = v.ownBlock ∨ ∃ b, v3.ownBlock = some b ∧ w.heap.size ≤ b from by rcases hat with h_ | ⟨b_, h_, hle_⟩; rw [h_]; exact HAT.out; exact .inr ⟨b_, h_, Nat.le_trans HK.out.1 hle_⟩); clear HB HO HK HAT hg hat; have HB := Aside0.mk hb; have HO := Aside0.mk ho; have HK := n2_; have HAT := n3_; clear n2_ n3_ hb ho)))
     go_roundw
     case rel => exact ⟨j + 1, _, by omega, by go_num, rfl, HO, HB, HK, HAT⟩
     case measure => simp [intOf]; omega
    ·go_wp2
     go_ret
     have : j = l1.length := by omega
     subst this
     have h1 := HO.out
     rw [List.take_length] at h1
     exact ⟨_, rfl, h1, HB.out, HK.out, HAT.out⟩
  ·rw [if_neg hall] at h
   cases h
 ·rw [if_neg hlen] at h
  cases h

/-! ### patch_Apply: function 9, by hand -/
def patch_Apply.l0 : List S28 → List (List Int) → Nat → List (List Int) → Option (List (List Int) × Int)
 | [], a, i, b => if i ≤ a.length then (patch_more.f b (a.drop i)).bind fun r => some (r, 0) else none
 | h :: s, a, i, b => (patch_stands.f a h.f1 h.f0).bind fun st => if st = true then (if i ≤ h.f0.toNat then (patch_more.f b ((a.take h.f0.toNat).drop i)).bind fun b1 => (patch_more.f b1 h.f2).bind fun b2 => patch_Apply.l0 s a (h.f0.toNat + h.f1.length) b2 else none) else some ([], 5)
def patch_Apply.f (k : Nat) (s : List S28) (a : List (List Int)) : Option (List (List Int) × Int) := (edit_Good.f k s).bind fun g => if g = true then patch_Apply.l0 s a 0 [] else some ([], 1)
theorem patch_Apply.mono : ∀ a0 a1 k, LeO (patch_Apply.f k a0 a1) (patch_Apply.f (k + 1) a0 a1) := fun _ _ _ => LeO.bind (edit_Good.mono _ _) fun _ => LeO.refl _
theorem patch_stands_room {a o : List (List Int)} {x : Int} (h : patch_stands.f a o x = some true) : 0 ≤ x ∧ x.toNat + o.length ≤ a.length := by
 unfold patch_stands.f at h
 by_cases h0 : 0 ≤ x
 ·rw [if_pos h0] at h
  by_cases h1 : x ≤ (a.length : Int)
  ·rw [if_pos h1] at h
   by_cases h2 : (o.length : Int) ≤ (a.length : Int) - x
   ·omega
   ·rw [if_neg h2] at h; cases h
  ·rw [if_neg h1] at h; cases h
 ·rw [if_neg h0] at h; cases h
set_option maxHeartbeats 8000000 in
set_option maxRecDepth 100000 in
theorem patch_Apply.calls (k : Nat) (A0 : Option Addr) (c0 : Nat) (l0 : List S28) (A1 : Option Addr) (c1 : Nat) (l1 : List (List Int)) (r1 : List (List Int)) (r2 : Int) (w : World) (hr0 : Kd.C k28 w A0 l0.length l0) (hc0 : l0.length ≤ c0) (hr1 : Kd.C (Kd.slice 5 (Kd.int .u8)) w A1 l1.length l1) (hc1 : l1.length ≤ c1) (h : patch_Apply.f k l0 l1 = some (r1, r2)) :
  Calls Try.prog 9 #[.slice A0 l0.length c0, .slice A1 l1.length c1] w fun e w' => ∃ v0_ : Value, e = .returned (.tuple #[v0_, .int .i64 r2]) ∧ Kd.N (Kd.slice 5 (Kd.int .u8)) 22 w' w.heap.size (fun k_ => w.heap.size ≤ k_) v0_ r1 ∧ Below w.heap.size w w' := by
 have HR0 := Aside0.mk hr0
 have HR1 := Aside0.mk hr1
 have HC0 := Aside0.mk hc0
 have HC1 := Aside0.mk hc1
 have hm0 := Kd.C_max hr0
 have hm1 := Kd.C_max hr1
 have HB := Aside0.mk (Below.refl w.heap.size w)
 clear hr0 hc0 hr1 hc1
 have hu28 := Try.underlying28
 unfold patch_Apply.f at h
 rw [Option.bind_eq_some_iff] at h
 obtain ⟨g, hg, h⟩ := h
 have AG := Aside0.mk hg
 clear hg
 cases g with
 | false =>
  rw [if_neg (by decide)] at h
  simp only [Option.some.injEq, Prod.mk.injEq] at h
  obtain ⟨rfl, rfl⟩ := h
  go_enter Try.func9, Try.ntmps9
  go_wp2_with (go_at_call 23; (with_reducible refine (edit_Good.calls k _ _ l0 false _ HR0.out HC0.out AG.out).mono ?_); rintro e w1 ⟨rfl, hb⟩; have n0_ := Aside0.mk (below_step HB.out hb); clear HB hb; have HB := n0_; clear n0_)
  go_ret2
  exact ⟨_, rfl, Kd.N_nil _ _ _ _ _, HB.out⟩
 | true =>
  rw [if_pos rfl] at h
  have H := Aside0.mk h
  clear h
  go_enter Try.func9, Try.ntmps9
  go_wp2_with (go_at_call 23; (with_reducible refine (edit_Good.calls k _ _ l0 true _ HR0.out HC0.out AG.out).mono ?_); rintro e w1 ⟨rfl, hb⟩; have n0_ := Aside0.mk (below_step HB.out hb); clear HB hb; have HB := n0_; clear n0_)
  go_loopw [6, 7, 15] (fun s6 s7 ix wr => ∃ (j i : Nat) (b : List (List Int)) (vb : Value), j ≤ l0.length ∧ ix = .int .i64 j ∧ s7 = .int .i64 i ∧ vb = s6 ∧ Aside0 (patch_Apply.l0 (l0.drop j) l1 i b = some (r1, r2)) ∧ Aside0 (Kd.R (Kd.slice 5 (Kd.int .u8)) 22 wr w.heap.size (fun _ => True) vb b) ∧ Aside0 (Below w.heap.size w wr)) (fun _ _ ix _ => l0.length - (intOf ix).toNat)
  case atStart => exact ⟨0, 0, [], _, Nat.zero_le _, rfl, rfl, rfl, H, ⟨Kd.R_nil _ _ _ _ _⟩, HB⟩
  case round =>
   clear H HB
   obtain ⟨j, i, b, vb, hj, rfl, rfl, rfl, H, HO, HB⟩ := hrel
   by_cases hjl : j < l0.length
   ·obtain ⟨ad, B1, d1, B2, d2, rfl, hx0, hx1, hx2, hl1, hi1, hl2, hi2⟩ := at_T28 HR0.out (j : Int) (by omega) (by omega)
    simp only [Int.toNat_natCast] at hx0 hx1 hx2
    have e0 : rd_T28 l0 (j : Int) = l0.getD j z28 := rfl
    have h := H.out
    rw [drop_at28 hjl, ← e0] at h
    generalize rd_T28 l0 (j : Int) = x at hx0 hx1 hx2 hl1 hi1 hl2 hi2 h
    have hx0 := pw_cell_below HB.out hx0
    have hx1 := pw_cell_below HB.out hx1
    have hx2 := pw_cell_below HB.out hx2
    have HI1 := Aside0.mk hi1
    have HI2 := Aside0.mk hi2
    have HL1 := Aside0.mk hl1
    have HL2 := Aside0.mk hl2
    have AH := Aside0.mk h
    clear hi1 hi2 hl1 hl2 h H e0
    go_upto_region 8 with (first
     | ((with_reducible refine gate_dst (N := 9) rfl ?_); refine box_event ?hg (N := 9) ?hd (cs := #[.int .i64 0, .slice none 0 0, .slice none 0 0]) (t := 28) ?hr ?_; (case hd => rfl); (case hg => rfl); (case hr => first | (go_simp; done) | (go_simp; rfl)); intro gb hg w8 hbox hb; have n0_ := Aside0.mk (below_step HB.out hb); have BK := Aside0.mk hbox; have n1_ := Aside0.mk (Kd.R_below HO.out hb); have HBG := Aside0.mk (show w.heap.size ≤ gb by rw [hg]; exact HB.out.size); clear HB HO hb hbox hg; have HB := n0_; have HO := n1_; clear n0_ n1_; have hcz0 := (blk_cell BK.out 0).trans rfl; have hcz1 := (blk_cell BK.out 1).trans rfl; have hcz2 := (blk_cell BK.out 2).trans rfl; have hfz0 := blk_frozen BK.out 0; have hfz1 := blk_frozen BK.out 1; have hfz2 := blk_frozen BK.out 2))
    have hO1 := Kd.R_types HO.out BK.out (by decide)
    have HNE := Aside0.mk (Kd.R_ne HO.out BK.out (by decide))
    have hO2 := Kd.R_far (p := ⟨gb, 0, none⟩) hO1 (fun _ hk => hk.2) (.int .i64 x.f0)
    have hO3 := Kd.R_far (p := ⟨gb, 1, none⟩) hO2 (fun _ hk => hk.2) (.slice B1 x.f1.length d1)
    have hO4 := Kd.R_far (p := ⟨gb, 2, none⟩) hO3 (fun _ hk => hk.2) (.slice B2 x.f2.length d2)
    have n0_ := Aside0.mk (Kd.R_mono hO4 (fun _ _ => trivial) (ok' := fun _ => True))
    have n1_ := Aside0.mk (blk_put (cs' := #[.int .i64 x.f0, .slice B1 x.f1.length d1, .slice B2 x.f2.length d2]) (blk_put (cs' := #[.int .i64 x.f0, .slice B1 x.f1.length d1, .slice none 0 0]) (blk_put (cs' := #[.int .i64 x.f0, .slice none 0 0, .slice none 0 0]) BK.out 0 (.int .i64 x.f0) rfl) 1 (.slice B1 x.f1.length d1) rfl) 2 (.slice B2 x.f2.length d2) rfl)
    have n2_ := Aside0.mk (below_set (j := 2) (v := .slice B2 x.f2.length d2) (below_set (j := 1) (v := .slice B1 x.f1.length d1) (below_set (j := 0) (v := .int .i64 x.f0) HB.out HBG.out) HBG.out) HBG.out)
    clear HO BK HB hO1 hO2 hO3 hO4 hcz0 hcz1 hcz2 hfz0 hfz1 hfz2
    have HO := n0_
    have BK := n1_
    have HB := n2_
    clear n0_ n1_ n2_
    generalize ((w8.setCell ⟨gb, 0, none⟩ (.int .i64 x.f0)).setCell ⟨gb, 1, none⟩ (.slice B1 x.f1.length d1)).setCell ⟨gb, 2, none⟩ (.slice B2 x.f2.length d2) = wx at HO BK HB ⊢
    have hcz0 : wx.cell? ⟨gb, 0, none⟩ = some (.int .i64 x.f0) := (blk_cell BK.out 0).trans rfl
    have hcz1 : wx.cell? ⟨gb, 1, none⟩ = some (.slice B1 x.f1.length d1) := (blk_cell BK.out 1).trans rfl
    have h := AH.out
    rw [patch_Apply.l0, Option.bind_eq_some_iff] at h
    obtain ⟨st, hst, h⟩ := h
    have AST := Aside0.mk hst
    clear hst AH
    cases st with
    | false =>
     rw [if_neg (by decide)] at h
     simp only [Option.some.injEq, Prod.mk.injEq] at h
     obtain ⟨rfl, rfl⟩ := h
     go_wp2_with (first
      | (go_at_call 24; go_loud ((with_reducible refine (patch_stands.calls _ _ l1 _ _ x.f1 x.f0 false _ (Kd.C_below HR1.out HB.out) HC1.out (Kd.C_below HI1.out HB.out) HL1.out AST.out).mono ?_); rintro e w3 ⟨rfl, hb⟩; obtain ⟨n3, rfl⟩ := hb.out; clear hb)))
     go_ret2
     exact ⟨_, rfl, Kd.N_nil _ _ _ _ _, drewN_below HB.out _⟩
    | true =>
     rw [if_pos rfl] at h
     by_cases hib : i ≤ x.f0.toNat
     ·rw [if_pos hib, Option.bind_eq_some_iff] at h
      obtain ⟨b1, hb1, h⟩ := h
      rw [Option.bind_eq_some_iff] at h
      obtain ⟨b2, hb2, h⟩ := h
      obtain ⟨hp0, hp1⟩ := patch_stands_room AST.out
      have AB1 := Aside0.mk hb1
      have AB2 := Aside0.mk hb2
      have AH := Aside0.mk h
      clear hb1 hb2 h
      go_upto_region 10 with (first
       | (go_at_call 24; go_loud ((with_reducible refine (patch_stands.calls _ _ l1 _ _ x.f1 x.f0 true _ (Kd.C_below HR1.out HB.out) HC1.out (Kd.C_below HI1.out HB.out) HL1.out AST.out).mono ?_); rintro e w3 ⟨rfl, hb⟩; obtain ⟨n3, rfl⟩ := hb.out; clear hb)))
      have n0_ := Aside0.mk (below_drew (drewN_below HB.out n3))
      have n1_ := Aside0.mk (Kd.R_below HO.out (below_drew (drewN_below (Below.refl wx.heap.size wx) n3)))
      have n2_ := Aside0.mk (show (wx.drewN n3).drew.heap[gb]? = _ from BK.out)
      clear HB HO BK hcz0 hcz1
      have HB := n0_
      have HO := n1_
      have BK := n2_
      clear n0_ n1_ n2_
      generalize wx.drewN n3 = wy at HB HO BK ⊢
      have hcz0 : wy.drew.cell? ⟨gb, 0, none⟩ = some (.int .i64 x.f0) := (blk_cell BK.out 0).trans rfl
      have hcz2 : wy.drew.cell? ⟨gb, 2, none⟩ = some (.slice B2 x.f2.length d2) := (blk_cell BK.out 2).trans rfl
      obtain ⟨A3, hcutr, hc3, hr3⟩ := cut_row (A := A1) HC1.out (lo := i) (hi := x.f0.toNat) hib (by omega)
      have HR3 := Aside0.mk (hr3 w HR1.out)
      have HC3 := Aside0.mk hc3
      rw [Int.toNat_of_nonneg hp0] at hcutr
      clear hr3 hc3
      generalize (l1.take x.f0.toNat).drop i = T at hcutr HR3 HC3 AB1
      go_cut [6] (fun s6 wr => ∃ vb', s6 = vb' ∧ Aside0 (Kd.R (Kd.slice 5 (Kd.int .u8)) 22 wr w.heap.size (fun _ => True) vb' b2) ∧ Aside0 (Below w.heap.size w wr) ∧ Aside0 (wr.heap[gb]? = some (.cells #[.int .i64 x.f0, .slice B1 x.f1.length d1, .slice B2 x.f2.length d2] 28 (0, 0))))
      case first =>
       go_region_held3 (fun w' => w'.cell? ⟨gb, 0, none⟩ = some (.int .i64 x.f0) ∧ w'.cell? ⟨gb, 2, none⟩ = some (.slice B2 x.f2.length d2)) (first | go_keep | exact ⟨(blk_cell BK1.out 0).trans rfl, (blk_cell BK1.out 2).trans rfl⟩ | exact ⟨(blk_cell BK2.out 0).trans rfl, (blk_cell BK2.out 2).trans rfl⟩) (first
        | (go_at_call 25; ((with_reducible refine (patch_more.calls w vb b _ _ _ b1 _ HB.out HO.out HR3.out HC3.out AB1.out).mono ?_); rintro e w4 ⟨v1, rfl, ho, hb, hk, hat⟩; have BK1 := Aside0.mk (blk_kept BK.out hk HNE.out); have HB1 := Aside0.mk hb; have HO1 := Aside0.mk ho; have HNE1 := Aside0.mk (Kd.R_ne ho BK1.out (by decide)); (try clear ho); (try clear hb); (try clear hk); (try clear hat)))
        | (go_at_call 25; ((with_reducible refine (patch_more.calls w v1 b1 _ _ x.f2 b2 _ HB1.out HO1.out HI2.out HL2.out AB2.out).mono ?_); rintro e w5 ⟨v2, rfl, ho, hb, hk, hat⟩; have BK2 := Aside0.mk (blk_kept BK1.out hk HNE1.out); have HB2 := Aside0.mk hb; have HO2 := Aside0.mk ho; (try clear ho); (try clear hb); (try clear hk); (try clear hat))))
       go_wp2_with fail
       go_meet
       exact ⟨_, rfl, HO2, HB2, BK2⟩
      case rest =>
       clear HB HO BK HNE
       obtain ⟨vb', rfl, HO, HB, BK⟩ := hcut
       have hcz0 : wc.cell? ⟨gb, 0, none⟩ = some (.int .i64 x.f0) := (blk_cell BK.out 0).trans rfl
       have hcz1 : wc.cell? ⟨gb, 1, none⟩ = some (.slice B1 x.f1.length d1) := (blk_cell BK.out 1).trans rfl
       go_wp2
       go_roundw
       case rel => exact ⟨j + 1, x.f0.toNat + x.f1.length, b2, _, by omega, by go_num, by congr 1; omega, rfl, AH, HO, HB⟩
       case measure => simp [intOf]; omega
     ·rw [if_neg hib] at h; cases h
   ·obtain rfl : j = l0.length := by omega
    have h := H.out
    rw [List.drop_length, patch_Apply.l0] at h
    by_cases hil : i ≤ l1.length
    ·rw [if_pos hil, Option.bind_eq_some_iff] at h
     obtain ⟨r0, hr0, h⟩ := h
     simp only [Option.some.injEq, Prod.mk.injEq] at h
     obtain ⟨rfl, rfl⟩ := h
     have AR := Aside0.mk hr0
     clear hr0 H
     obtain ⟨A3, hcutr, hc3, hr3⟩ := cut_end (A := A1) HC1.out (lo := i) hil
     have HR3 := Aside0.mk (hr3 w HR1.out)
     have HC3 := Aside0.mk hc3
     clear hr3 hc3
     generalize l1.drop i = T at hcutr HR3 HC3 AR
     go_wp2_with (first
      | (go_at_call 25; go_loud ((with_reducible refine (patch_more.calls w vb b _ _ T r0 _ HB.out HO.out HR3.out HC3.out AR.out).mono ?_); rintro e w4 ⟨v1, rfl, ho, hb, -, -⟩)))
     go_ret2
     exact ⟨_, rfl, Kd.R_N (Kd.R_mono (Kd.R_bound ho) (fun _ hk => hk.2.1)), hb⟩
    ·rw [if_neg hil] at h; cases h

end Go.Proofs.Ytlodaoijokfblaa.PPatchMade
