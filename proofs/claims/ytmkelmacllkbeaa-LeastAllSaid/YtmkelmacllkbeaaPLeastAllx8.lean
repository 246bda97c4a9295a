/- What the given program's functions come to, each a Lean function and the walk that shows it: no condition beside those that each theorem names. -/
import Derived.Test.YtmkelmacllkbeaaPLeastAllx0
import Derived.Test.YtmkelmacllkbeaaPLeastAllx7
namespace Go.Proofs.Ytmkelmacllkbeaa.PLeastAll
open Go.RowKit Go.Proofs.YtmkelmacllkbeaaW.PrintWords Go.Proofs.YtmkelmacllkbeaaW.PrintLast Go.Proofs.YtmkelmacllkbeaaW.PrintMore
attribute [local go_sem] max2_int min2_int max_two min_two max_three min_three max_four min_four   -- for this text's walks alone
set_option linter.unusedVariables false
set_option linter.unusedSimpArgs false

/-! ### tattingref7_Len: function 16 -/
def tattingref7_Len.f (k : Nat) (l0 : List Int) (l1 : List Int) : Option (Int) := (tattingref7_Behind.f k l0 l1).bind fun t232 => (if 0 < (t232.length : Int) then (if 0 < ((rd_L1 t232 0).length : Int) then (some (rd (rd_L1 t232 0) 0)) else (none)) else (none))
theorem tattingref7_Len.mono : ∀ a0 a1 k, LeO (tattingref7_Len.f k a0 a1) (tattingref7_Len.f (k + 1) a0 a1) := by
 intro a0 a1 k
 unfold tattingref7_Len.f
 repeat' first
   | (with_reducible exact tattingref7_Behind.mono _ _ _)
   | (with_reducible exact LeO.refl _)
   | (with_reducible exact LeO.none _)
   | (with_reducible refine LeO.ite ?_ ?_)
   | (with_reducible refine LeO.bind ?_ (fun _ => ?_))
   | exact tattingref7_Behind.mono _ _ _
   | exact LeO.none _
   | refine LeO.ite ?_ ?_
   | refine LeO.bind ?_ (fun _ => ?_)
set_option maxHeartbeats 8000000 in
set_option maxRecDepth 100000 in
theorem tattingref7_Len.calls (k : Nat) (A0 : Option Addr) (c0 : Nat) (l0 : List Int) (A1 : Option Addr) (c1 : Nat) (l1 : List Int) (r : Int) (w : World) (hr0 : Kd.C (Kd.int .i64) w A0 l0.length l0) (hc0 : l0.length ≤ c0) (hr1 : Kd.C (Kd.int .i64) w A1 l1.length l1) (hc1 : l1.length ≤ c1) (h : tattingref7_Len.f k l0 l1 = some r) :
  Calls Try.prog 16 #[.slice A0 l0.length c0, .slice A1 l1.length c1] w fun e w' => e = .returned (.int .i64 r) ∧ Below w.heap.size w w' := by
 have HR0 := Aside0.mk hr0
 have HC0 := Aside0.mk hc0
 clear hr0 hc0
 have HR1 := Aside0.mk hr1
 have HC1 := Aside0.mk hc1
 clear hr1 hc1
 have HB := Aside0.mk (Below.refl w.heap.size w)
 have H : ((tattingref7_Behind.f k l0 l1).bind fun t232 => (if 0 < (t232.length : Int) then (if 0 < ((rd_L1 t232 0).length : Int) then (some (rd (rd_L1 t232 0) 0)) else (none)) else (none))) = some r := h
 clear h
 replace H := Option.bind_eq_some_iff.mp H
 obtain ⟨t232, A30, H⟩ := H
 replace H : (if 0 < (t232.length : Int) then (if 0 < ((rd_L1 t232 0).length : Int) then (some (rd (rd_L1 t232 0) 0)) else (none)) else (none)) = some r := H
 have A3 := Aside0.mk A30
 clear A30
 by_cases c4 : 0 < (t232.length : Int)
 ·rw [if_pos c4] at H
  have c4b0 : decide (0 < (t232.length : Int)) = true := decide_eq_true c4
  have c4b1 : decide (0 < t232.length) = true := decide_eq_true (by omega)
  clear c4
  by_cases c5 : 0 < ((rd_L1 t232 0).length : Int)
  ·rw [if_pos c5] at H
   have c5b0 : decide (0 < ((rd_L1 t232 0).length : Int)) = true := decide_eq_true c5
   have c5b1 : decide (0 < (rd_L1 t232 0).length) = true := decide_eq_true (by omega)
   clear c5
   obtain rfl := Option.some.inj H
   go_enter Try.func16, Try.ntmps16
   go_wp2_with (first | ((with_reducible refine gate_callee (f := 24) rfl ?_); refine goesL_ (some 7) rfl rfl Try.func24 (by kernel_rfl) rfl #[.slice A0 l0.length c0, .slice A1 l1.length c1] rfl (by (try simp only [List.map_toArray, List.map_cons, List.map_nil]); first | done | rfl | (simp only [List.length_drop, List.length_take]; rfl)) ?_; (with_reducible refine (tattingref7_Behind.calls k _ _ l0 _ _ l1 t232 _ ?side1 ?side2 ?side3 ?side4 A3.out).mono ?_); (case side1 => repeat (first | exact HR0.out | (with_reducible refine Kd.C_alloc ?_ _) | (with_reducible refine Kd.C_drewN ?_ _) | (with_reducible refine Kd.C_drew ?_))); (case side2 => exact HC0.out); (case side3 => repeat (first | exact HR1.out | (with_reducible refine Kd.C_alloc ?_ _) | (with_reducible refine Kd.C_drewN ?_ _) | (with_reducible refine Kd.C_drew ?_))); (case side4 => exact HC1.out); rintro e w6 ⟨v233, rfl, ho0, hb⟩; refine ⟨_, rfl, ?_⟩; have n0_ := Aside0.mk (Kd.S_lower ho0 (below_size (by repeat (first | (with_reducible first | exact HB.out | apply below_alloc | apply pw_below_drewN | apply below_drew1) | exact HB.out)))); have n1_ := Aside0.mk (below_step (by repeat (first | (with_reducible first | exact HB.out | apply below_alloc | apply pw_below_drewN | apply below_drew1) | exact HB.out)) hb); clear HB; have HO234 := n0_; have HB := n1_; clear n0_ n1_; (try clear hb); (try clear hb2); (try clear hk); (try clear hi); (try clear ho0); obtain ⟨Ao7, co7, eo7⟩ := Kd.S_slice HO234.out; subst eo7; have p235 : 0 ≤ (0 : Int) := (by omega); have q235 : 0 < (t232.length : Int) := of_decide_eq_true (by first | (with_reducible assumption) | assumption); obtain ⟨ad235, A235_0, c235_0, e235, hx235_0, hl235_0, hi235_0⟩ := at_L1 (Kd.S_reads' HO234.out).2.2 0 p235 q235; cases e235; obtain ⟨ce235, hce235, hMe235, hcc235⟩ := Kd.S_get HO234.out [] 0 p235 (by first | exact q235 | exact of_decide_eq_true (by first | (with_reducible assumption) | assumption) | (have e_ := (Kd.S_reads' HO234.out).1; omega)); obtain ⟨ve235_0, rfl, ge235_0⟩ := hMe235; have hv235_0 := hcc235 0 _ rfl; rw [Nat.add_zero, show ((Kd.slice 3 (Kd.int .i64))).sz = 1 from rfl, Nat.mul_one] at hv235_0; replace hv235_0 := Option.some.inj (hv235_0.symm.trans hx235_0); rw [hv235_0] at ge235_0; have HL235_0 := Aside0.mk (show Kd.R (Kd.int .i64) 3 _ _ _ _ (rd_L1 t232 0) from ge235_0); clear hv235_0 ge235_0; (try clear hcc235); (try clear hce235); have qi235 : (0 < t232.length) = True := eq_true (by omega); (try rw [show ((0 : Int)).toNat = 0 from rfl] at hx235_0); (try rw [Addr.add_zero'] at hx235_0); have HR235_0 := Aside0.mk hi235_0; have HC235_0 := Aside0.mk hl235_0; (try clear hi235_0); (try clear hl235_0); replace p235 := eq_true p235; replace q235 := eq_true q235; have p236 : 0 ≤ (0 : Int) := (by omega); have q236 : 0 < ((rd_L1 t232 0).length : Int) := of_decide_eq_true (by first | (with_reducible assumption) | assumption); obtain ⟨ad236, e236, hx236_0⟩ := Kd.at_int (by repeat (first | (with_reducible exact HR235_0.out) | (with_reducible refine Kd.C_alloc ?_ _) | (with_reducible refine Kd.C_drewN ?_ _) | (with_reducible refine Kd.C_drew ?_) | exact HR235_0.out)) 0 p236 q236; cases e236; have qi236 : (0 < (rd_L1 t232 0).length) = True := eq_true (by omega); (try rw [show ((0 : Int)).toNat = 0 from rfl] at hx236_0); (try rw [Addr.add_zero'] at hx236_0); replace p236 := eq_true p236; replace q236 := eq_true q236))
   go_ret
   exact ⟨by first | rfl | (simp [errW_none, errW_some] <;> rfl) | (simp [*, errW_none, errW_some] <;> rfl), by repeat (first | (with_reducible first | exact HB.out | apply below_alloc | apply pw_below_drewN | apply below_drew1) | exact HB.out)⟩
  ·rw [if_neg c5] at H
   exact absurd H (by simp)
 ·rw [if_neg c4] at H
  exact absurd H (by simp)

/-! ### tattingref7_Good: function 17 -/
mutual
def tattingref7_Good.l0 : Nat → List Int → List Int → List (S26) → Int → Option (Bool)
 | 0, _, _, _, _ => none
 | k + 1, x0, x1, x2, x7 => if x7 < (x2.length : Int) then (if 0 ≤ x7 then (if ((rd_T26 x2 x7).f0) < 0 then (tattingref7_Good.j1 k x0 x1 x2 x7 true ((rd_T26 x2 x7).f0) ((rd_T26 x2 x7).f1)) else (if ((rd_T26 x2 x7).f0) ≥ (x0.length : Int) then (tattingref7_Good.j1 k x0 x1 x2 x7 true ((rd_T26 x2 x7).f0) ((rd_T26 x2 x7).f1)) else (if ((rd_T26 x2 x7).f1) < 0 then (tattingref7_Good.j1 k x0 x1 x2 x7 true ((rd_T26 x2 x7).f0) ((rd_T26 x2 x7).f1)) else (if ((rd_T26 x2 x7).f1) ≥ (x1.length : Int) then (tattingref7_Good.j1 k x0 x1 x2 x7 true ((rd_T26 x2 x7).f0) ((rd_T26 x2 x7).f1)) else (if 0 ≤ ((rd_T26 x2 x7).f0) then (if ((rd_T26 x2 x7).f0) < (x0.length : Int) then (if 0 ≤ ((rd_T26 x2 x7).f1) then (if ((rd_T26 x2 x7).f1) < (x1.length : Int) then (tattingref7_Good.j1 k x0 x1 x2 x7 ((rd x0 ((rd_T26 x2 x7).f0)) != (rd x1 ((rd_T26 x2 x7).f1))) ((rd_T26 x2 x7).f0) ((rd_T26 x2 x7).f1)) else (none)) else (none)) else (none)) else (none)))))) else (none)) else (some true)
def tattingref7_Good.j1 : Nat → List Int → List Int → List (S26) → Int → Bool → Int → Int → Option (Bool)
 | 0, _, _, _, _, _, _, _ => none
 | k + 1, x0, x1, x2, x7, x53, x239000, x239001 => if x53 = true then (some false) else (if x7 > 0 then (if 0 ≤ (wrap64 (x7 - 1)) then (if (wrap64 (x7 - 1)) < (x2.length : Int) then (if x239000 ≤ ((rd_T26 x2 (wrap64 (x7 - 1))).f0) then (some false) else (if x239001 ≤ ((rd_T26 x2 (wrap64 (x7 - 1))).f1) then (some false) else (tattingref7_Good.l0 k x0 x1 x2 (wrap64 (x7 + 1))))) else (none)) else (none)) else (tattingref7_Good.l0 k x0 x1 x2 (wrap64 (x7 + 1))))
end
def tattingref7_Good.f (k : Nat) (l0 : List Int) (l1 : List Int) (l2 : List (S26)) : Option (Bool) := tattingref7_Good.l0 k l0 l1 l2 0
theorem tattingref7_Good.mono_l : ∀ k, (∀ y0 y1 y2 y3, LeO (tattingref7_Good.l0 k y0 y1 y2 y3) (tattingref7_Good.l0 (k + 1) y0 y1 y2 y3)) ∧ (∀ y0 y1 y2 y3 y4 y5 y6, LeO (tattingref7_Good.j1 k y0 y1 y2 y3 y4 y5 y6) (tattingref7_Good.j1 (k + 1) y0 y1 y2 y3 y4 y5 y6))
 | 0 => ⟨fun _ _ _ _ r h => by simp [tattingref7_Good.l0] at h, fun _ _ _ _ _ _ _ r h => by simp [tattingref7_Good.j1] at h⟩
 | k + 1 => by
  obtain ⟨ih0, ih1⟩ := tattingref7_Good.mono_l k
  refine ⟨?_, ?_⟩
  ·intro y0 y1 y2 y3
   unfold tattingref7_Good.l0
   repeat' first
   | (with_reducible exact ih0 _ _ _ _)
   | (with_reducible exact ih1 _ _ _ _ _ _ _)
   | (with_reducible exact LeO.refl _)
   | (with_reducible exact LeO.none _)
   | (with_reducible refine LeO.ite ?_ ?_)
   | (with_reducible refine LeO.bind ?_ (fun _ => ?_))
   | exact ih0 _ _ _ _
   | exact ih1 _ _ _ _ _ _ _
   | exact LeO.none _
   | refine LeO.ite ?_ ?_
   | refine LeO.bind ?_ (fun _ => ?_)
  ·intro y0 y1 y2 y3 y4 y5 y6
   unfold tattingref7_Good.j1
   repeat' first
   | (with_reducible exact ih0 _ _ _ _)
   | (with_reducible exact ih1 _ _ _ _ _ _ _)
   | (with_reducible exact LeO.refl _)
   | (with_reducible exact LeO.none _)
   | (with_reducible refine LeO.ite ?_ ?_)
   | (with_reducible refine LeO.bind ?_ (fun _ => ?_))
   | exact ih0 _ _ _ _
   | exact ih1 _ _ _ _ _ _ _
   | exact LeO.none _
   | refine LeO.ite ?_ ?_
   | refine LeO.bind ?_ (fun _ => ?_)
theorem tattingref7_Good.mono : ∀ a0 a1 a2 k, LeO (tattingref7_Good.f k a0 a1 a2) (tattingref7_Good.f (k + 1) a0 a1 a2) := by
 intro a0 a1 a2 k
 obtain ⟨ih0, ih1⟩ := tattingref7_Good.mono_l k
 unfold tattingref7_Good.f
 repeat' first
   | (with_reducible exact ih0 _ _ _ _)
   | (with_reducible exact ih1 _ _ _ _ _ _ _)
   | (with_reducible exact LeO.refl _)
   | (with_reducible exact LeO.none _)
   | (with_reducible refine LeO.ite ?_ ?_)
   | (with_reducible refine LeO.bind ?_ (fun _ => ?_))
   | exact ih0 _ _ _ _
   | exact ih1 _ _ _ _ _ _ _
   | exact LeO.none _
   | refine LeO.ite ?_ ?_
   | refine LeO.bind ?_ (fun _ => ?_)
set_option maxHeartbeats 8000000 in
set_option maxRecDepth 100000 in
theorem tattingref7_Good.calls (k : Nat) (A0 : Option Addr) (c0 : Nat) (l0 : List Int) (A1 : Option Addr) (c1 : Nat) (l1 : List Int) (A2 : Option Addr) (c2 : Nat) (l2 : List (S26)) (r : Bool) (w : World) (hr0 : Kd.C (Kd.int .i64) w A0 l0.length l0) (hc0 : l0.length ≤ c0) (hr1 : Kd.C (Kd.int .i64) w A1 l1.length l1) (hc1 : l1.length ≤ c1) (hr2 : Kd.C k26 w A2 l2.length l2) (hc2 : l2.length ≤ c2) (h : tattingref7_Good.f k l0 l1 l2 = some r) :
  Calls Try.prog 17 #[.slice A0 l0.length c0, .slice A1 l1.length c1, .slice A2 l2.length c2] w fun e w' => e = .returned (.bool r) ∧ Below w.heap.size w w' := by
 have hu26 := Try.underlying26
 have HR0 := Aside0.mk hr0
 have HC0 := Aside0.mk hc0
 clear hr0 hc0
 have HR1 := Aside0.mk hr1
 have HC1 := Aside0.mk hc1
 clear hr1 hc1
 have HR2 := Aside0.mk hr2
 have HC2 := Aside0.mk hc2
 clear hr2 hc2
 have HB := Aside0.mk (Below.refl w.heap.size w)
 have H : (tattingref7_Good.l0 k l0 l1 l2 0) = some r := h
 clear h
 have H' := Aside0.mk H
 clear H
 go_enter Try.func17, Try.ntmps17
 go_wp2
 repeat (go_quiet (fail); try go_wp2)
 go_loopg [7] k (fun kq v7 w' => ∃ (x7_1 : Int), v7 = .int .i64 x7_1 ∧ Aside0 (tattingref7_Good.l0 kq l0 l1 l2 x7_1 = some r) ∧ Aside0 (kq ≤ k) ∧ Aside0 (Below w.heap.size w w'))
 case atStart => exact ⟨(0), (by first | rfl | (simp; done) | (simp [*]; done)), H', ⟨Nat.le_refl _⟩, ⟨by repeat (first | (with_reducible first | exact HB.out | apply below_alloc | apply pw_below_drewN | apply below_drew1) | exact HB.out)⟩⟩
 case round =>
  clear H'
  try clear c1
  try clear c2
  try clear p2
  obtain ⟨x7_1, rfl, HA, HK1, HB⟩ := hrel
  cases gk with
  | zero => exact absurd HA.out (by simp [tattingref7_Good.l0])
  | succ k1 =>
   have H := HA.out
   clear HA
   simp only [tattingref7_Good.l0] at H
   by_cases c4 : x7_1 < (l2.length : Int)
   ·rw [if_pos c4] at H
    have c4b0 : decide (x7_1 < (l2.length : Int)) = true := decide_eq_true c4
    clear c4
    by_cases c5 : 0 ≤ x7_1
    ·rw [if_pos c5] at H
     have c5b0 : decide (0 ≤ x7_1) = true := decide_eq_true c5
     clear c5
     have HC6 := Aside0.mk H
     clear H
     have p237 : 0 ≤ (x7_1 : Int) := of_decide_eq_true (by first | (with_reducible assumption) | assumption)
     have q237 : x7_1 < (l2.length : Int) := of_decide_eq_true (by first | (with_reducible assumption) | assumption)
     obtain ⟨ad237, e237, hx237_0, hx237_1⟩ := at_T26 HR2.out x7_1 p237 q237
     cases e237
     replace hx237_0 := (HB.out.cell (World.block_lt_of_cell? w _ hx237_0)).trans hx237_0
     replace hx237_1 := (HB.out.cell (World.block_lt_of_cell? w _ hx237_1)).trans hx237_1
     replace p237 := eq_true p237
     replace q237 := eq_true q237
     go_upto_region 5 with (first | ((with_reducible refine gate_dst (N := 8) rfl ?_); (try (refine gate_guard (by rfl) ?_; dsimp only)); refine box_event ?hg (N := 8) ?hd (cs := #[.int .i64 0, .int .i64 0]) (t := 26) ?hr ?_; (case hd => rfl); (case hg => rfl); (case hr => first | (go_simp; done) | (go_simp; rfl)); intro gb238 hg w7 hbox hb; have n0_ := Aside0.mk (below_step (by repeat (first | (with_reducible first | exact HB.out | apply below_alloc | apply pw_below_drewN | apply below_drew1) | exact HB.out)) hb); have n1_ := Aside0.mk (hbox); have n2_ := Aside0.mk ((by rw [hg]; exact (below_size (by repeat (first | (with_reducible first | exact HB.out | apply below_alloc | apply pw_below_drewN | apply below_drew1) | exact HB.out))) : w.heap.size ≤ gb238)); have n3_ := Aside0.mk ((by rw [hg]; exact (below_size (by repeat (first | (with_reducible first | exact HB.out | apply below_alloc | apply pw_below_drewN | apply below_drew1) | exact HB.out))) : w.heap.size ≤ gb238)); clear HB; have HB := n0_; have BK238 := n1_; have GW238 := n2_; have GE238 := n3_; clear n0_ n1_ n2_ n3_; (try clear hb); (try clear hbox); (try clear hg); have hcz8_0 : w7.cell? ⟨gb238, 0, none⟩ = some (.int .i64 0) := (blk_cell BK238.out 0).trans rfl; have hcz8_1 : w7.cell? ⟨gb238, 1, none⟩ = some (.int .i64 0) := (blk_cell BK238.out 1).trans rfl; have hfz8_0 := blk_frozen BK238.out 0; have hfz8_1 := blk_frozen BK238.out 1))
     repeat (go_quiet (first | ((with_reducible refine gate_dst (N := 8) rfl ?_); (try (refine gate_guard (by rfl) ?_; dsimp only)); refine box_event ?hg (N := 8) ?hd (cs := #[.int .i64 0, .int .i64 0]) (t := 26) ?hr ?_; (case hd => rfl); (case hg => rfl); (case hr => first | (go_simp; done) | (go_simp; rfl)); intro gb238 hg w7 hbox hb; have n0_ := Aside0.mk (below_step (by repeat (first | (with_reducible first | exact HB.out | apply below_alloc | apply pw_below_drewN | apply below_drew1) | exact HB.out)) hb); have n1_ := Aside0.mk (hbox); have n2_ := Aside0.mk ((by rw [hg]; exact (below_size (by repeat (first | (with_reducible first | exact HB.out | apply below_alloc | apply pw_below_drewN | apply below_drew1) | exact HB.out))) : w.heap.size ≤ gb238)); have n3_ := Aside0.mk ((by rw [hg]; exact (below_size (by repeat (first | (with_reducible first | exact HB.out | apply below_alloc | apply pw_below_drewN | apply below_drew1) | exact HB.out))) : w.heap.size ≤ gb238)); clear HB; have HB := n0_; have BK238 := n1_; have GW238 := n2_; have GE238 := n3_; clear n0_ n1_ n2_ n3_; (try clear hb); (try clear hbox); (try clear hg); have hcz8_0 : w7.cell? ⟨gb238, 0, none⟩ = some (.int .i64 0) := (blk_cell BK238.out 0).trans rfl; have hcz8_1 : w7.cell? ⟨gb238, 1, none⟩ = some (.int .i64 0) := (blk_cell BK238.out 1).trans rfl; have hfz8_0 := blk_frozen BK238.out 0; have hfz8_1 := blk_frozen BK238.out 1)); go_upto_region 5 with (first | ((with_reducible refine gate_dst (N := 8) rfl ?_); (try (refine gate_guard (by rfl) ?_; dsimp only)); refine box_event ?hg (N := 8) ?hd (cs := #[.int .i64 0, .int .i64 0]) (t := 26) ?hr ?_; (case hd => rfl); (case hg => rfl); (case hr => first | (go_simp; done) | (go_simp; rfl)); intro gb238 hg w7 hbox hb; have n0_ := Aside0.mk (below_step (by repeat (first | (with_reducible first | exact HB.out | apply below_alloc | apply pw_below_drewN | apply below_drew1) | exact HB.out)) hb); have n1_ := Aside0.mk (hbox); have n2_ := Aside0.mk ((by rw [hg]; exact (below_size (by repeat (first | (with_reducible first | exact HB.out | apply below_alloc | apply pw_below_drewN | apply below_drew1) | exact HB.out))) : w.heap.size ≤ gb238)); have n3_ := Aside0.mk ((by rw [hg]; exact (below_size (by repeat (first | (with_reducible first | exact HB.out | apply below_alloc | apply pw_below_drewN | apply below_drew1) | exact HB.out))) : w.heap.size ≤ gb238)); clear HB; have HB := n0_; have BK238 := n1_; have GW238 := n2_; have GE238 := n3_; clear n0_ n1_ n2_ n3_; (try clear hb); (try clear hbox); (try clear hg); have hcz8_0 : w7.cell? ⟨gb238, 0, none⟩ = some (.int .i64 0) := (blk_cell BK238.out 0).trans rfl; have hcz8_1 : w7.cell? ⟨gb238, 1, none⟩ = some (.int .i64 0) := (blk_cell BK238.out 1).trans rfl; have hfz8_0 := blk_frozen BK238.out 0; have hfz8_1 := blk_frozen BK238.out 1)))
     (try simp only [Act.put, sA,sB,sC])
     go_cut [53] (fun v53 wc => ∃ (kq : Nat) (x53_5 : Bool), v53 = .bool x53_5 ∧ Aside0 (tattingref7_Good.j1 kq l0 l1 l2 x7_1 x53_5 ((rd_T26 l2 x7_1).f0) ((rd_T26 l2 x7_1).f1) = some r) ∧ Aside0 (kq ≤ k1) ∧ Aside0 (wc.heap[gb238]? = some (.cells #[.int .i64 ((rd_T26 l2 x7_1).f0), .int .i64 ((rd_T26 l2 x7_1).f1)] 26 (0, 0))) ∧ Aside0 (Below w.heap.size w wc))
     case first =>
      have H := HC6.out
      clear HC6
      by_cases c9 : ((rd_T26 l2 x7_1).f0) < 0
      ·rw [if_pos c9] at H
       have c9b0 : decide (((rd_T26 l2 x7_1).f0) < 0) = true := decide_eq_true c9
       clear c9
       (first | rw [c9b0] | (simp only [i64_w, i32_w]; rw [c9b0]) | skip)
       have H' := Aside0.mk H
       clear H
       have hcz10_0 : w7.cell? ⟨gb238, 0, none⟩ = some (.int .i64 0) := (blk_cell BK238.out 0).trans rfl
       have hcz10_1 : w7.cell? ⟨gb238, 1, none⟩ = some (.int .i64 0) := (blk_cell BK238.out 1).trans rfl
       have hfz10_0 := blk_frozen BK238.out 0
       have hfz10_1 := blk_frozen BK238.out 1
       go_wp2
       repeat (go_quiet (fail); try go_wp2)
       go_meet
       case rel => exact ⟨_, (true), (by first | rfl | (simp; done) | (simp [*]; done)), H', ⟨by have := HK1.out; first | omega | exact Nat.le_refl _⟩, ⟨by (with_reducible repeat (first | refine blk_drewN ?_ _ | refine blk_drew ?_ | refine blk_alloc ?_ _)); refine blk_put (cs := #[.int .i64 ((rd_T26 l2 x7_1).f0), .int .i64 0]) ?_ 1 _ rfl; (with_reducible repeat (first | refine blk_drewN ?_ _ | refine blk_drew ?_ | refine blk_alloc ?_ _)); refine blk_put (cs := #[.int .i64 0, .int .i64 0]) ?_ 0 _ rfl; (with_reducible repeat (first | refine blk_drewN ?_ _ | refine blk_drew ?_ | refine blk_alloc ?_ _)); exact BK238.out⟩, ⟨by repeat (first | (with_reducible first | exact HB.out | apply below_alloc | apply pw_below_drewN | apply below_drew1 | refine below_set ?_ GE238.out) | exact HB.out)⟩⟩
      ·rw [if_neg c9] at H
       have c9b0 : decide (((rd_T26 l2 x7_1).f0) < 0) = false := decide_eq_false c9
       clear c9
       (first | rw [c9b0] | (simp only [i64_w, i32_w]; rw [c9b0]) | skip)
       by_cases c11 : ((rd_T26 l2 x7_1).f0) ≥ (l0.length : Int)
       ·rw [if_pos c11] at H
        have c11b0 : decide ((l0.length : Int) ≤ ((rd_T26 l2 x7_1).f0)) = true := decide_eq_true c11
        clear c11
        have H' := Aside0.mk H
        clear H
        have hcz12_0 : w7.cell? ⟨gb238, 0, none⟩ = some (.int .i64 0) := (blk_cell BK238.out 0).trans rfl
        have hcz12_1 : w7.cell? ⟨gb238, 1, none⟩ = some (.int .i64 0) := (blk_cell BK238.out 1).trans rfl
        have hfz12_0 := blk_frozen BK238.out 0
        have hfz12_1 := blk_frozen BK238.out 1
        go_wp2
        repeat (go_quiet (fail); try go_wp2)
        go_meet
        case rel => exact ⟨_, (true), (by first | rfl | (simp; done) | (simp [*]; done)), H', ⟨by have := HK1.out; first | omega | exact Nat.le_refl _⟩, ⟨by (with_reducible repeat (first | refine blk_drewN ?_ _ | refine blk_drew ?_ | refine blk_alloc ?_ _)); refine blk_put (cs := #[.int .i64 ((rd_T26 l2 x7_1).f0), .int .i64 0]) ?_ 1 _ rfl; (with_reducible repeat (first | refine blk_drewN ?_ _ | refine blk_drew ?_ | refine blk_alloc ?_ _)); refine blk_put (cs := #[.int .i64 0, .int .i64 0]) ?_ 0 _ rfl; (with_reducible repeat (first | refine blk_drewN ?_ _ | refine blk_drew ?_ | refine blk_alloc ?_ _)); exact BK238.out⟩, ⟨by repeat (first | (with_reducible first | exact HB.out | apply below_alloc | apply pw_below_drewN | apply below_drew1 | refine below_set ?_ GE238.out) | exact HB.out)⟩⟩
       ·rw [if_neg c11] at H
        have c11b0 : decide ((l0.length : Int) ≤ ((rd_T26 l2 x7_1).f0)) = false := decide_eq_false c11
        clear c11
        by_cases c13 : ((rd_T26 l2 x7_1).f1) < 0
        ·rw [if_pos c13] at H
         have c13b0 : decide (((rd_T26 l2 x7_1).f1) < 0) = true := decide_eq_true c13
         clear c13
         have H' := Aside0.mk H
         clear H
         have hcz14_0 : w7.cell? ⟨gb238, 0, none⟩ = some (.int .i64 0) := (blk_cell BK238.out 0).trans rfl
         have hcz14_1 : w7.cell? ⟨gb238, 1, none⟩ = some (.int .i64 0) := (blk_cell BK238.out 1).trans rfl
         have hfz14_0 := blk_frozen BK238.out 0
         have hfz14_1 := blk_frozen BK238.out 1
         go_wp2
         repeat (go_quiet (fail); try go_wp2)
         go_meet
         case rel => exact ⟨_, (true), (by first | rfl | (simp; done) | (simp [*]; done)), H', ⟨by have := HK1.out; first | omega | exact Nat.le_refl _⟩, ⟨by (with_reducible repeat (first | refine blk_drewN ?_ _ | refine blk_drew ?_ | refine blk_alloc ?_ _)); refine blk_put (cs := #[.int .i64 ((rd_T26 l2 x7_1).f0), .int .i64 0]) ?_ 1 _ rfl; (with_reducible repeat (first | refine blk_drewN ?_ _ | refine blk_drew ?_ | refine blk_alloc ?_ _)); refine blk_put (cs := #[.int .i64 0, .int .i64 0]) ?_ 0 _ rfl; (with_reducible repeat (first | refine blk_drewN ?_ _ | refine blk_drew ?_ | refine blk_alloc ?_ _)); exact BK238.out⟩, ⟨by repeat (first | (with_reducible first | exact HB.out | apply below_alloc | apply pw_below_drewN | apply below_drew1 | refine below_set ?_ GE238.out) | exact HB.out)⟩⟩
        ·rw [if_neg c13] at H
         have c13b0 : decide (((rd_T26 l2 x7_1).f1) < 0) = false := decide_eq_false c13
         clear c13
         by_cases c15 : ((rd_T26 l2 x7_1).f1) ≥ (l1.length : Int)
         ·rw [if_pos c15] at H
          have c15b0 : decide ((l1.length : Int) ≤ ((rd_T26 l2 x7_1).f1)) = true := decide_eq_true c15
          clear c15
          have H' := Aside0.mk H
          clear H
          have hcz16_0 : w7.cell? ⟨gb238, 0, none⟩ = some (.int .i64 0) := (blk_cell BK238.out 0).trans rfl
          have hcz16_1 : w7.cell? ⟨gb238, 1, none⟩ = some (.int .i64 0) := (blk_cell BK238.out 1).trans rfl
          have hfz16_0 := blk_frozen BK238.out 0
          have hfz16_1 := blk_frozen BK238.out 1
          go_wp2
          repeat (go_quiet (fail); try go_wp2)
          go_meet
          case rel => exact ⟨_, (true), (by first | rfl | (simp; done) | (simp [*]; done)), H', ⟨by have := HK1.out; first | omega | exact Nat.le_refl _⟩, ⟨by (with_reducible repeat (first | refine blk_drewN ?_ _ | refine blk_drew ?_ | refine blk_alloc ?_ _)); refine blk_put (cs := #[.int .i64 ((rd_T26 l2 x7_1).f0), .int .i64 0]) ?_ 1 _ rfl; (with_reducible repeat (first | refine blk_drewN ?_ _ | refine blk_drew ?_ | refine blk_alloc ?_ _)); refine blk_put (cs := #[.int .i64 0, .int .i64 0]) ?_ 0 _ rfl; (with_reducible repeat (first | refine blk_drewN ?_ _ | refine blk_drew ?_ | refine blk_alloc ?_ _)); exact BK238.out⟩, ⟨by repeat (first | (with_reducible first | exact HB.out | apply below_alloc | apply pw_below_drewN | apply below_drew1 | refine below_set ?_ GE238.out) | exact HB.out)⟩⟩
         ·rw [if_neg c15] at H
          have c15b0 : decide ((l1.length : Int) ≤ ((rd_T26 l2 x7_1).f1)) = false := decide_eq_false c15
          clear c15
          by_cases c17 : 0 ≤ ((rd_T26 l2 x7_1).f0)
          ·rw [if_pos c17] at H
           have c17b0 : decide (0 ≤ ((rd_T26 l2 x7_1).f0)) = true := decide_eq_true c17
           clear c17
           by_cases c18 : ((rd_T26 l2 x7_1).f0) < (l0.length : Int)
           ·rw [if_pos c18] at H
            have c18b0 : decide (((rd_T26 l2 x7_1).f0) < (l0.length : Int)) = true := decide_eq_true c18
            clear c18
            by_cases c19 : 0 ≤ ((rd_T26 l2 x7_1).f1)
            ·rw [if_pos c19] at H
             have c19b0 : decide (0 ≤ ((rd_T26 l2 x7_1).f1)) = true := decide_eq_true c19
             clear c19
             by_cases c20 : ((rd_T26 l2 x7_1).f1) < (l1.length : Int)
             ·rw [if_pos c20] at H
              have c20b0 : decide (((rd_T26 l2 x7_1).f1) < (l1.length : Int)) = true := decide_eq_true c20
              clear c20
              have H' := Aside0.mk H
              clear H
              have hcz21_0 : w7.cell? ⟨gb238, 0, none⟩ = some (.int .i64 0) := (blk_cell BK238.out 0).trans rfl
              have hcz21_1 : w7.cell? ⟨gb238, 1, none⟩ = some (.int .i64 0) := (blk_cell BK238.out 1).trans rfl
              have hfz21_0 := blk_frozen BK238.out 0
              have hfz21_1 := blk_frozen BK238.out 1
              have p239 : 0 ≤ (((rd_T26 l2 x7_1).f0) : Int) := of_decide_eq_true (by first | (with_reducible assumption) | assumption)
              have q239 : ((rd_T26 l2 x7_1).f0) < (l0.length : Int) := of_decide_eq_true (by first | (with_reducible assumption) | assumption)
              obtain ⟨ad239, e239, hx239_0⟩ := Kd.at_int HR0.out ((rd_T26 l2 x7_1).f0) p239 q239
              cases e239
              have hn239_0 : ad239.block ≠ gb238 := Nat.ne_of_lt (Nat.lt_of_lt_of_le (by have := World.block_lt_of_cell? _ _ hx239_0; first | rwa [add_block] at this | exact this) GW238.out)
              have hn239_1 : ad239.block ≠ gb238 := Nat.ne_of_lt (Nat.lt_of_lt_of_le (by have := World.block_lt_of_cell? _ _ hx239_0; first | rwa [add_block] at this | exact this) GW238.out)
              replace hx239_0 := (HB.out.cell (World.block_lt_of_cell? w _ hx239_0)).trans hx239_0
              replace hx239_0 := (cell_far (p := ⟨gb238, 0, none⟩) (by first | (rw [add_block]; exact hn239_0) | (show (Addr.add _ _).block ≠ _; rw [add_block]; exact hn239_0) | exact hn239_0) (.int .i64 ((rd_T26 l2 x7_1).f0))).trans hx239_0
              replace hx239_0 := (cell_far (p := ⟨gb238, 1, none⟩) (by first | (rw [add_block]; exact hn239_1) | (show (Addr.add _ _).block ≠ _; rw [add_block]; exact hn239_1) | exact hn239_1) (.int .i64 ((rd_T26 l2 x7_1).f1))).trans hx239_0
              (try have hy239_0 := fun (n_ : Nat) => (show ((((w7.drewN n_).setCell ⟨gb238, 0, none⟩ (.int .i64 ((rd_T26 l2 x7_1).f0))).setCell ⟨gb238, 1, none⟩ (.int .i64 ((rd_T26 l2 x7_1).f1)))).cell? _ = some _ from hx239_0))
              clear hn239_0
              clear hn239_1
              replace p239 := eq_true p239
              replace q239 := eq_true q239
              have p240 : 0 ≤ (((rd_T26 l2 x7_1).f1) : Int) := of_decide_eq_true (by first | (with_reducible assumption) | assumption)
              have q240 : ((rd_T26 l2 x7_1).f1) < (l1.length : Int) := of_decide_eq_true (by first | (with_reducible assumption) | assumption)
              obtain ⟨ad240, e240, hx240_0⟩ := Kd.at_int HR1.out ((rd_T26 l2 x7_1).f1) p240 q240
              cases e240
              have hn240_0 : ad240.block ≠ gb238 := Nat.ne_of_lt (Nat.lt_of_lt_of_le (by have := World.block_lt_of_cell? _ _ hx240_0; first | rwa [add_block] at this | exact this) GW238.out)
              have hn240_1 : ad240.block ≠ gb238 := Nat.ne_of_lt (Nat.lt_of_lt_of_le (by have := World.block_lt_of_cell? _ _ hx240_0; first | rwa [add_block] at this | exact this) GW238.out)
              replace hx240_0 := (HB.out.cell (World.block_lt_of_cell? w _ hx240_0)).trans hx240_0
              replace hx240_0 := (cell_far (p := ⟨gb238, 0, none⟩) (by first | (rw [add_block]; exact hn240_0) | (show (Addr.add _ _).block ≠ _; rw [add_block]; exact hn240_0) | exact hn240_0) (.int .i64 ((rd_T26 l2 x7_1).f0))).trans hx240_0
              replace hx240_0 := (cell_far (p := ⟨gb238, 1, none⟩) (by first | (rw [add_block]; exact hn240_1) | (show (Addr.add _ _).block ≠ _; rw [add_block]; exact hn240_1) | exact hn240_1) (.int .i64 ((rd_T26 l2 x7_1).f1))).trans hx240_0
              (try have hy240_0 := fun (n_ : Nat) => (show ((((w7.drewN n_).setCell ⟨gb238, 0, none⟩ (.int .i64 ((rd_T26 l2 x7_1).f0))).setCell ⟨gb238, 1, none⟩ (.int .i64 ((rd_T26 l2 x7_1).f1)))).cell? _ = some _ from hx240_0))
              clear hn240_0
              clear hn240_1
              replace p240 := eq_true p240
              replace q240 := eq_true q240
              go_wp2
              repeat (go_quiet (fail); try go_wp2)
              go_meet
              case rel => exact ⟨_, (((rd l0 ((rd_T26 l2 x7_1).f0)) != (rd l1 ((rd_T26 l2 x7_1).f1)))), (by first | rfl | (simp; done) | (simp [*]; done)), H', ⟨by have := HK1.out; first | omega | exact Nat.le_refl _⟩, ⟨by (with_reducible repeat (first | refine blk_drewN ?_ _ | refine blk_drew ?_ | refine blk_alloc ?_ _)); refine blk_put (cs := #[.int .i64 ((rd_T26 l2 x7_1).f0), .int .i64 0]) ?_ 1 _ rfl; (with_reducible repeat (first | refine blk_drewN ?_ _ | refine blk_drew ?_ | refine blk_alloc ?_ _)); refine blk_put (cs := #[.int .i64 0, .int .i64 0]) ?_ 0 _ rfl; (with_reducible repeat (first | refine blk_drewN ?_ _ | refine blk_drew ?_ | refine blk_alloc ?_ _)); exact BK238.out⟩, ⟨by repeat (first | (with_reducible first | exact HB.out | apply below_alloc | apply pw_below_drewN | apply below_drew1 | refine below_set ?_ GE238.out) | exact HB.out)⟩⟩
             ·rw [if_neg c20] at H
              exact absurd H (by simp)
            ·rw [if_neg c19] at H
             exact absurd H (by simp)
           ·rw [if_neg c18] at H
            exact absurd H (by simp)
          ·rw [if_neg c17] at H
           exact absurd H (by simp)
     case rest =>
      clear HC6
      try clear c1
      try clear c2
      try clear p2
      try clear q2
      try clear hx2
      try clear c4
      try clear c4b0
      try clear c5
      try clear c5b0
      try clear c9
      try clear c9b0
      try clear c11
      try clear c11b0
      try clear c13
      try clear c13b0
      try clear c15
      try clear c15b0
      try clear c17
      try clear c17b0
      try clear c18
      try clear c18b0
      try clear c19
      try clear c19b0
      try clear c20
      try clear c20b0
      try clear hcz10_0
      try clear hcz10_1
      try clear hcz12_0
      try clear hcz12_1
      try clear hcz14_0
      try clear hcz14_1
      try clear hcz16_0
      try clear hcz16_1
      try clear hcz21_0
      try clear hcz21_1
      try clear hcz8_0
      try clear hcz8_1
      try clear hfz10_0
      try clear hfz10_1
      try clear hfz12_0
      try clear hfz12_1
      try clear hfz14_0
      try clear hfz14_1
      try clear hfz16_0
      try clear hfz16_1
      try clear hfz21_0
      try clear hfz21_1
      try clear hfz8_0
      try clear hfz8_1
      try clear hx237_0
      try clear hx237_1
      try clear hx239_0
      try clear hx240_0
      try clear p2
      try clear p237
      try clear p239
      try clear p240
      try clear q237
      try clear q239
      try clear q240
      obtain ⟨kq, x53_5, rfl, HA, HJ5, BK238, HB⟩ := hcut
      cases kq with
      | zero => exact absurd HA.out (by simp [tattingref7_Good.j1])
      | succ kj5 =>
       have H := HA.out
       clear HA
       simp only [tattingref7_Good.j1] at H
       by_cases c22 : x53_5 = true
       ·subst c22
        have H1 : (some false) = some r := by rw [if_pos rfl] at H; exact H
        clear H
        have H := H1
        clear H1
        obtain rfl := Option.some.inj H
        go_wp2
        repeat (go_quiet (fail); try go_wp2)
        go_ret
        exact ⟨by first | rfl | (simp [errW_none, errW_some] <;> rfl) | (simp [*, errW_none, errW_some] <;> rfl), by repeat (first | (with_reducible first | exact HB.out | apply below_alloc | apply pw_below_drewN | apply below_drew1 | refine below_set ?_ GE238.out) | exact HB.out)⟩
       ·replace c22 := Bool.eq_false_iff.mpr c22
        subst c22
        have H1 : (if x7_1 > 0 then (if 0 ≤ (wrap64 (x7_1 - 1)) then (if (wrap64 (x7_1 - 1)) < (l2.length : Int) then (if ((rd_T26 l2 x7_1).f0) ≤ ((rd_T26 l2 (wrap64 (x7_1 - 1))).f0) then (some false) else (if ((rd_T26 l2 x7_1).f1) ≤ ((rd_T26 l2 (wrap64 (x7_1 - 1))).f1) then (some false) else (tattingref7_Good.l0 kj5 l0 l1 l2 (wrap64 (x7_1 + 1))))) else (none)) else (none)) else (tattingref7_Good.l0 kj5 l0 l1 l2 (wrap64 (x7_1 + 1)))) = some r := by rw [if_neg (show ¬ (false = true) by decide)] at H; exact H
        clear H
        have H := H1
        clear H1
        by_cases c23 : x7_1 > 0
        ·rw [if_pos c23] at H
         have c23b0 : decide (0 < x7_1) = true := decide_eq_true c23
         clear c23
         obtain ⟨ji24, hji24⟩ : ∃ j_ : Int, (wrap64 (x7_1 - 1)) = j_ := ⟨_, rfl⟩
         replace H : (if 0 ≤ (ji24) then (if (ji24) < (l2.length : Int) then (if ((rd_T26 l2 x7_1).f0) ≤ ((rd_T26 l2 (ji24)).f0) then (some false) else (if ((rd_T26 l2 x7_1).f1) ≤ ((rd_T26 l2 (ji24)).f1) then (some false) else (tattingref7_Good.l0 kj5 l0 l1 l2 (wrap64 (x7_1 + 1))))) else (none)) else (none)) = some r := by first | (rw [hji24] at H; exact H) | (simp only [hji24] at H ⊢; exact H)
         have hji24w : (IntKind.i64.wrap (x7_1 - 1)) = ji24 := (i64_w _).trans hji24
         by_cases c25 : 0 ≤ (ji24)
         ·rw [if_pos c25] at H
          have c25b0 : decide (0 ≤ (ji24)) = true := decide_eq_true c25
          clear c25
          by_cases c26 : (ji24) < (l2.length : Int)
          ·rw [if_pos c26] at H
           have c26b0 : decide ((ji24) < (l2.length : Int)) = true := decide_eq_true c26
           clear c26
           by_cases c27 : ((rd_T26 l2 x7_1).f0) ≤ ((rd_T26 l2 (ji24)).f0)
           ·rw [if_pos c27] at H
            have c27b0 : decide (((rd_T26 l2 x7_1).f0) ≤ ((rd_T26 l2 (ji24)).f0)) = true := decide_eq_true c27
            clear c27
            obtain rfl := Option.some.inj H
            have hcz28_0 : wc.cell? ⟨gb238, 0, none⟩ = some (.int .i64 ((rd_T26 l2 x7_1).f0)) := (blk_cell BK238.out 0).trans rfl
            have hcz28_1 : wc.cell? ⟨gb238, 1, none⟩ = some (.int .i64 ((rd_T26 l2 x7_1).f1)) := (blk_cell BK238.out 1).trans rfl
            have hfz28_0 := blk_frozen BK238.out 0
            have hfz28_1 := blk_frozen BK238.out 1
            have p241 : 0 ≤ ((ji24) : Int) := of_decide_eq_true (by first | (with_reducible assumption) | assumption)
            have q241 : (ji24) < (l2.length : Int) := of_decide_eq_true (by first | (with_reducible assumption) | assumption)
            obtain ⟨ad241, e241, hx241_0, hx241_1⟩ := at_T26 HR2.out (ji24) p241 q241
            obtain rfl : ad237 = ad241 := (by injection e241)
            replace hx241_0 := (HB.out.cell (World.block_lt_of_cell? w _ hx241_0)).trans hx241_0
            replace hx241_1 := (HB.out.cell (World.block_lt_of_cell? w _ hx241_1)).trans hx241_1
            replace p241 := eq_true p241
            replace q241 := eq_true q241
            go_wp2
            repeat (go_quiet (fail); try go_wp2)
            go_ret
            exact ⟨by first | rfl | (simp [errW_none, errW_some] <;> rfl) | (simp only [← hji24]; first | rfl | (simp [errW_none, errW_some] <;> rfl)) | (simp [*, errW_none, errW_some] <;> rfl), by repeat (first | (with_reducible first | exact HB.out | apply below_alloc | apply pw_below_drewN | apply below_drew1 | refine below_set ?_ GE238.out) | exact HB.out)⟩
           ·rw [if_neg c27] at H
            have c27b0 : decide (((rd_T26 l2 x7_1).f0) ≤ ((rd_T26 l2 (ji24)).f0)) = false := decide_eq_false c27
            clear c27
            by_cases c29 : ((rd_T26 l2 x7_1).f1) ≤ ((rd_T26 l2 (ji24)).f1)
            ·rw [if_pos c29] at H
             have c29b0 : decide (((rd_T26 l2 x7_1).f1) ≤ ((rd_T26 l2 (ji24)).f1)) = true := decide_eq_true c29
             clear c29
             obtain rfl := Option.some.inj H
             have hcz30_0 : wc.cell? ⟨gb238, 0, none⟩ = some (.int .i64 ((rd_T26 l2 x7_1).f0)) := (blk_cell BK238.out 0).trans rfl
             have hcz30_1 : wc.cell? ⟨gb238, 1, none⟩ = some (.int .i64 ((rd_T26 l2 x7_1).f1)) := (blk_cell BK238.out 1).trans rfl
             have hfz30_0 := blk_frozen BK238.out 0
             have hfz30_1 := blk_frozen BK238.out 1
             have p241 : 0 ≤ ((ji24) : Int) := of_decide_eq_true (by first | (with_reducible assumption) | assumption)
             have q241 : (ji24) < (l2.length : Int) := of_decide_eq_true (by first | (with_reducible assumption) | assumption)
             obtain ⟨ad241, e241, hx241_0, hx241_1⟩ := at_T26 HR2.out (ji24) p241 q241
             obtain rfl : ad237 = ad241 := (by injection e241)
             replace hx241_0 := (HB.out.cell (World.block_lt_of_cell? w _ hx241_0)).trans hx241_0
             replace hx241_1 := (HB.out.cell (World.block_lt_of_cell? w _ hx241_1)).trans hx241_1
             replace p241 := eq_true p241
             replace q241 := eq_true q241
             have p242 : 0 ≤ ((ji24) : Int) := of_decide_eq_true (by first | (with_reducible assumption) | assumption)
             have q242 : (ji24) < (l2.length : Int) := of_decide_eq_true (by first | (with_reducible assumption) | assumption)
             obtain ⟨ad242, e242, hx242_0, hx242_1⟩ := at_T26 HR2.out (ji24) p242 q242
             obtain rfl : ad237 = ad242 := (by injection e242)
             replace hx242_0 := (HB.out.cell (World.block_lt_of_cell? w _ hx242_0)).trans hx242_0
             replace hx242_1 := (HB.out.cell (World.block_lt_of_cell? w _ hx242_1)).trans hx242_1
             replace p242 := eq_true p242
             replace q242 := eq_true q242
             go_wp2
             repeat (go_quiet (fail); try go_wp2)
             go_ret
             exact ⟨by first | rfl | (simp [errW_none, errW_some] <;> rfl) | (simp only [← hji24]; first | rfl | (simp [errW_none, errW_some] <;> rfl)) | (simp [*, errW_none, errW_some] <;> rfl), by repeat (first | (with_reducible first | exact HB.out | apply below_alloc | apply pw_below_drewN | apply below_drew1 | refine below_set ?_ GE238.out) | exact HB.out)⟩
            ·rw [if_neg c29] at H
             have c29b0 : decide (((rd_T26 l2 x7_1).f1) ≤ ((rd_T26 l2 (ji24)).f1)) = false := decide_eq_false c29
             clear c29
             have H' := Aside0.mk H
             clear H
             have hcz31_0 : wc.cell? ⟨gb238, 0, none⟩ = some (.int .i64 ((rd_T26 l2 x7_1).f0)) := (blk_cell BK238.out 0).trans rfl
             have hcz31_1 : wc.cell? ⟨gb238, 1, none⟩ = some (.int .i64 ((rd_T26 l2 x7_1).f1)) := (blk_cell BK238.out 1).trans rfl
             have hfz31_0 := blk_frozen BK238.out 0
             have hfz31_1 := blk_frozen BK238.out 1
             have p241 : 0 ≤ ((ji24) : Int) := of_decide_eq_true (by first | (with_reducible assumption) | assumption)
             have q241 : (ji24) < (l2.length : Int) := of_decide_eq_true (by first | (with_reducible assumption) | assumption)
             obtain ⟨ad241, e241, hx241_0, hx241_1⟩ := at_T26 HR2.out (ji24) p241 q241
             obtain rfl : ad237 = ad241 := (by injection e241)
             replace hx241_0 := (HB.out.cell (World.block_lt_of_cell? w _ hx241_0)).trans hx241_0
             replace hx241_1 := (HB.out.cell (World.block_lt_of_cell? w _ hx241_1)).trans hx241_1
             replace p241 := eq_true p241
             replace q241 := eq_true q241
             have p242 : 0 ≤ ((ji24) : Int) := of_decide_eq_true (by first | (with_reducible assumption) | assumption)
             have q242 : (ji24) < (l2.length : Int) := of_decide_eq_true (by first | (with_reducible assumption) | assumption)
             obtain ⟨ad242, e242, hx242_0, hx242_1⟩ := at_T26 HR2.out (ji24) p242 q242
             obtain rfl : ad237 = ad242 := (by injection e242)
             replace hx242_0 := (HB.out.cell (World.block_lt_of_cell? w _ hx242_0)).trans hx242_0
             replace hx242_1 := (HB.out.cell (World.block_lt_of_cell? w _ hx242_1)).trans hx242_1
             replace p242 := eq_true p242
             replace q242 := eq_true q242
             go_wp2
             repeat (go_quiet (fail); try go_wp2)
             go_roundg kj5
             case measure => have := HK1.out; have := HJ5.out; omega
             case rel => exact ⟨(wrap64 (x7_1 + 1)), (by first | rfl | (simp; done) | (simp [*]; done)), H', ⟨by have := HK1.out; have := HJ5.out; omega⟩, ⟨by repeat (first | (with_reducible first | exact HB.out | apply below_alloc | apply pw_below_drewN | apply below_drew1 | refine below_set ?_ GE238.out) | exact HB.out)⟩⟩
          ·rw [if_neg c26] at H
           exact absurd H (by simp)
         ·rw [if_neg c25] at H
          exact absurd H (by simp)
        ·rw [if_neg c23] at H
         have c23b0 : decide (0 < x7_1) = false := decide_eq_false c23
         clear c23
         have H' := Aside0.mk H
         clear H
         go_wp2
         repeat (go_quiet (fail); try go_wp2)
         go_roundg kj5
         case measure => have := HK1.out; have := HJ5.out; omega
         case rel => exact ⟨(wrap64 (x7_1 + 1)), (by first | rfl | (simp; done) | (simp [*]; done)), H', ⟨by have := HK1.out; have := HJ5.out; omega⟩, ⟨by repeat (first | (with_reducible first | exact HB.out | apply below_alloc | apply pw_below_drewN | apply below_drew1 | refine below_set ?_ GE238.out) | exact HB.out)⟩⟩
    ·rw [if_neg c5] at H
     exact absurd H (by simp)
   ·rw [if_neg c4] at H
    have c4b0 : decide (x7_1 < (l2.length : Int)) = false := decide_eq_false c4
    clear c4
    obtain rfl := Option.some.inj H
    go_wp2
    repeat (go_quiet (fail); try go_wp2)
    go_ret
    exact ⟨by first | rfl | (simp [errW_none, errW_some] <;> rfl) | (simp [*, errW_none, errW_some] <;> rfl), by repeat (first | (with_reducible first | exact HB.out | apply below_alloc | apply pw_below_drewN | apply below_drew1) | exact HB.out)⟩

/-! ### tattingref7_Less: function 18 -/
mutual
def tattingref7_Less.l0 : Nat → List (S26) → List (S26) → Int → Option (Bool)
 | 0, _, _, _ => none
 | k + 1, x0, x1, x5 => if x5 < (x0.length : Int) then (tattingref7_Less.j1 k x0 x1 x5 (decide (x5 < (x1.length : Int)))) else (tattingref7_Less.j1 k x0 x1 x5 false)
def tattingref7_Less.j1 : Nat → List (S26) → List (S26) → Int → Bool → Option (Bool)
 | 0, _, _, _, _ => none
 | k + 1, x0, x1, x5, x15 => if x15 = true then (if 0 ≤ x5 then (if x5 < (x0.length : Int) then (if x5 < (x1.length : Int) then (if ((rd_T26 x0 x5).f0) = ((rd_T26 x1 x5).f0) then (if ((rd_T26 x0 x5).f1) = ((rd_T26 x1 x5).f1) then (tattingref7_Less.l0 k x0 x1 (wrap64 (x5 + 1))) else (some (decide (((rd_T26 x0 x5).f1) < ((rd_T26 x1 x5).f1))))) else (some (decide (((rd_T26 x0 x5).f0) < ((rd_T26 x1 x5).f0))))) else (none)) else (none)) else (none)) else (some (decide ((x0.length : Int) < (x1.length : Int))))
end
def tattingref7_Less.f (k : Nat) (l0 : List (S26)) (l1 : List (S26)) : Option (Bool) := tattingref7_Less.l0 k l0 l1 0
theorem tattingref7_Less.mono_l : ∀ k, (∀ y0 y1 y2, LeO (tattingref7_Less.l0 k y0 y1 y2) (tattingref7_Less.l0 (k + 1) y0 y1 y2)) ∧ (∀ y0 y1 y2 y3, LeO (tattingref7_Less.j1 k y0 y1 y2 y3) (tattingref7_Less.j1 (k + 1) y0 y1 y2 y3))
 | 0 => ⟨fun _ _ _ r h => by simp [tattingref7_Less.l0] at h, fun _ _ _ _ r h => by simp [tattingref7_Less.j1] at h⟩
 | k + 1 => by
  obtain ⟨ih0, ih1⟩ := tattingref7_Less.mono_l k
  refine ⟨?_, ?_⟩
  ·intro y0 y1 y2
   unfold tattingref7_Less.l0
   repeat' first
   | (with_reducible exact ih0 _ _ _)
   | (with_reducible exact ih1 _ _ _ _)
   | (with_reducible exact LeO.refl _)
   | (with_reducible exact LeO.none _)
   | (with_reducible refine LeO.ite ?_ ?_)
   | (with_reducible refine LeO.bind ?_ (fun _ => ?_))
   | exact ih0 _ _ _
   | exact ih1 _ _ _ _
   | exact LeO.none _
   | refine LeO.ite ?_ ?_
   | refine LeO.bind ?_ (fun _ => ?_)
  ·intro y0 y1 y2 y3
   unfold tattingref7_Less.j1
   repeat' first
   | (with_reducible exact ih0 _ _ _)
   | (with_reducible exact ih1 _ _ _ _)
   | (with_reducible exact LeO.refl _)
   | (with_reducible exact LeO.none _)
   | (with_reducible refine LeO.ite ?_ ?_)
   | (with_reducible refine LeO.bind ?_ (fun _ => ?_))
   | exact ih0 _ _ _
   | exact ih1 _ _ _ _
   | exact LeO.none _
   | refine LeO.ite ?_ ?_
   | refine LeO.bind ?_ (fun _ => ?_)
theorem tattingref7_Less.mono : ∀ a0 a1 k, LeO (tattingref7_Less.f k a0 a1) (tattingref7_Less.f (k + 1) a0 a1) := by
 intro a0 a1 k
 obtain ⟨ih0, ih1⟩ := tattingref7_Less.mono_l k
 unfold tattingref7_Less.f
 repeat' first
   | (with_reducible exact ih0 _ _ _)
   | (with_reducible exact ih1 _ _ _ _)
   | (with_reducible exact LeO.refl _)
   | (with_reducible exact LeO.none _)
   | (with_reducible refine LeO.ite ?_ ?_)
   | (with_reducible refine LeO.bind ?_ (fun _ => ?_))
   | exact ih0 _ _ _
   | exact ih1 _ _ _ _
   | exact LeO.none _
   | refine LeO.ite ?_ ?_
   | refine LeO.bind ?_ (fun _ => ?_)
set_option maxHeartbeats 8000000 in
set_option maxRecDepth 100000 in
theorem tattingref7_Less.calls (k : Nat) (A0 : Option Addr) (c0 : Nat) (l0 : List (S26)) (A1 : Option Addr) (c1 : Nat) (l1 : List (S26)) (r : Bool) (w : World) (hr0 : Kd.C k26 w A0 l0.length l0) (hc0 : l0.length ≤ c0) (hr1 : Kd.C k26 w A1 l1.length l1) (hc1 : l1.length ≤ c1) (h : tattingref7_Less.f k l0 l1 = some r) :
  Calls Try.prog 18 #[.slice A0 l0.length c0, .slice A1 l1.length c1] w fun e w' => e = .returned (.bool r) ∧ Drawn0 w w' := by
 have HR0 := Aside0.mk hr0
 have HC0 := Aside0.mk hc0
 clear hr0 hc0
 have HR1 := Aside0.mk hr1
 have HC1 := Aside0.mk hc1
 clear hr1 hc1
 have H : (tattingref7_Less.l0 k l0 l1 0) = some r := h
 clear h
 have H' := Aside0.mk H
 clear H
 go_enter Try.func18, Try.ntmps18
 go_wp2
 repeat (go_quiet (fail); try go_wp2)
 go_loopg [5] k (fun kq v5 w' => ∃ (x5_1 : Int), v5 = .int .i64 x5_1 ∧ Aside0 (tattingref7_Less.l0 kq l0 l1 x5_1 = some r) ∧ Aside0 (kq ≤ k) ∧ Drawn0 w w')
 case atStart => exact ⟨(0), (by first | rfl | (simp; done) | (simp [*]; done)), H', ⟨Nat.le_refl _⟩, by repeat (first | exact Drawn0.refl _ | apply Drawn0.step)⟩
 case round =>
  clear H'
  try clear c1
  try clear p2
  obtain ⟨x5_1, rfl, HA, HK1, ⟨m1, rfl⟩⟩ := hrel
  cases gk with
  | zero => exact absurd HA.out (by simp [tattingref7_Less.l0])
  | succ k1 =>
   have H := HA.out
   clear HA
   simp only [tattingref7_Less.l0] at H
   have HC3 := Aside0.mk H
   clear H
   go_upto_region 2 with (fail)
   repeat (go_quiet (fail); go_upto_region 2 with (fail))
   go_cut [15] (fun v15 wc => ∃ (kq : Nat) (x15_2 : Bool), v15 = .bool x15_2 ∧ Aside0 (tattingref7_Less.j1 kq l0 l1 x5_1 x15_2 = some r) ∧ Aside0 (kq ≤ k1) ∧ Drawn0 w wc)
   case first =>
    have H := HC3.out
    clear HC3
    by_cases c4 : x5_1 < (l0.length : Int)
    ·rw [if_pos c4] at H
     have c4b0 : decide (x5_1 < (l0.length : Int)) = true := decide_eq_true c4
     clear c4
     (first | rw [c4b0] | (simp only [i64_w, i32_w]; rw [c4b0]) | skip)
     have H' := Aside0.mk H
     clear H
     go_wp2
     repeat (go_quiet (fail); try go_wp2)
     go_meet
     case rel => exact ⟨_, (decide (x5_1 < (l1.length : Int))), (by first | rfl | (simp; done) | (simp [*]; done)), H', ⟨by have := HK1.out; first | omega | exact Nat.le_refl _⟩, by repeat (first | exact Drawn0.refl _ | apply Drawn0.step)⟩
    ·rw [if_neg c4] at H
     have c4b0 : decide (x5_1 < (l0.length : Int)) = false := decide_eq_false c4
     clear c4
     (first | rw [c4b0] | (simp only [i64_w, i32_w]; rw [c4b0]) | skip)
     have H' := Aside0.mk H
     clear H
     go_wp2
     repeat (go_quiet (fail); try go_wp2)
     go_meet
     case rel => exact ⟨_, (false), (by first | rfl | (simp; done) | (simp [*]; done)), H', ⟨by have := HK1.out; first | omega | exact Nat.le_refl _⟩, by repeat (first | exact Drawn0.refl _ | apply Drawn0.step)⟩
   case rest =>
    clear HC3
    try clear c1
    try clear p2
    try clear c4
    try clear c4b0
    try clear p2
    obtain ⟨kq, x15_2, rfl, HA, HJ2, ⟨mc2, rfl⟩⟩ := hcut
    cases kq with
    | zero => exact absurd HA.out (by simp [tattingref7_Less.j1])
    | succ kj2 =>
     have H := HA.out
     clear HA
     simp only [tattingref7_Less.j1] at H
     by_cases c5 : x15_2 = true
     ·subst c5
      have H1 : (if 0 ≤ x5_1 then (if x5_1 < (l0.length : Int) then (if x5_1 < (l1.length : Int) then (if ((rd_T26 l0 x5_1).f0) = ((rd_T26 l1 x5_1).f0) then (if ((rd_T26 l0 x5_1).f1) = ((rd_T26 l1 x5_1).f1) then (tattingref7_Less.l0 kj2 l0 l1 (wrap64 (x5_1 + 1))) else (some (decide (((rd_T26 l0 x5_1).f1) < ((rd_T26 l1 x5_1).f1))))) else (some (decide (((rd_T26 l0 x5_1).f0) < ((rd_T26 l1 x5_1).f0))))) else (none)) else (none)) else (none)) = some r := by rw [if_pos rfl] at H; exact H
      clear H
      have H := H1
      clear H1
      by_cases c6 : 0 ≤ x5_1
      ·rw [if_pos c6] at H
       have c6b0 : decide (0 ≤ x5_1) = true := decide_eq_true c6
       clear c6
       by_cases c7 : x5_1 < (l0.length : Int)
       ·rw [if_pos c7] at H
        have c7b0 : decide (x5_1 < (l0.length : Int)) = true := decide_eq_true c7
        clear c7
        by_cases c8 : x5_1 < (l1.length : Int)
        ·rw [if_pos c8] at H
         have c8b0 : decide (x5_1 < (l1.length : Int)) = true := decide_eq_true c8
         clear c8
         by_cases c9 : ((rd_T26 l0 x5_1).f0) = ((rd_T26 l1 x5_1).f0)
         ·rw [if_pos c9] at H
          have c9b0 : (((rd_T26 l0 x5_1).f0) == ((rd_T26 l1 x5_1).f0)) = true := beq_iff_eq.mpr c9
          have c9b1 : (((rd_T26 l0 x5_1).f0) != ((rd_T26 l1 x5_1).f0)) = false := bne_eq_false_iff_eq.mpr c9
          clear c9
          by_cases c10 : ((rd_T26 l0 x5_1).f1) = ((rd_T26 l1 x5_1).f1)
          ·rw [if_pos c10] at H
           have c10b0 : (((rd_T26 l0 x5_1).f1) == ((rd_T26 l1 x5_1).f1)) = true := beq_iff_eq.mpr c10
           have c10b1 : (((rd_T26 l0 x5_1).f1) != ((rd_T26 l1 x5_1).f1)) = false := bne_eq_false_iff_eq.mpr c10
           clear c10
           have H' := Aside0.mk H
           clear H
           have p243 : 0 ≤ (x5_1 : Int) := of_decide_eq_true (by first | (with_reducible assumption) | assumption)
           have q243 : x5_1 < (l0.length : Int) := of_decide_eq_true (by first | (with_reducible assumption) | assumption)
           obtain ⟨ad243, e243, hx243_0, hx243_1⟩ := at_T26 HR0.out x5_1 p243 q243
           cases e243
           replace p243 := eq_true p243
           replace q243 := eq_true q243
           have p244 : 0 ≤ (x5_1 : Int) := of_decide_eq_true (by first | (with_reducible assumption) | assumption)
           have q244 : x5_1 < (l1.length : Int) := of_decide_eq_true (by first | (with_reducible assumption) | assumption)
           obtain ⟨ad244, e244, hx244_0, hx244_1⟩ := at_T26 HR1.out x5_1 p244 q244
           cases e244
           replace p244 := eq_true p244
           replace q244 := eq_true q244
           have p245 : 0 ≤ (x5_1 : Int) := of_decide_eq_true (by first | (with_reducible assumption) | assumption)
           have q245 : x5_1 < (l0.length : Int) := of_decide_eq_true (by first | (with_reducible assumption) | assumption)
           obtain ⟨ad245, e245, hx245_0, hx245_1⟩ := at_T26 HR0.out x5_1 p245 q245
           obtain rfl : ad243 = ad245 := (by injection e245)
           replace p245 := eq_true p245
           replace q245 := eq_true q245
           have p246 : 0 ≤ (x5_1 : Int) := of_decide_eq_true (by first | (with_reducible assumption) | assumption)
           have q246 : x5_1 < (l1.length : Int) := of_decide_eq_true (by first | (with_reducible assumption) | assumption)
           obtain ⟨ad246, e246, hx246_0, hx246_1⟩ := at_T26 HR1.out x5_1 p246 q246
           obtain rfl : ad244 = ad246 := (by injection e246)
           replace p246 := eq_true p246
           replace q246 := eq_true q246
           go_wp2
           repeat (go_quiet (fail); try go_wp2)
           go_roundg kj2
           case measure => have := HK1.out; have := HJ2.out; omega
           case rel => exact ⟨(wrap64 (x5_1 + 1)), (by first | rfl | (simp; done) | (simp [*]; done)), H', ⟨by have := HK1.out; have := HJ2.out; omega⟩, by repeat (first | exact Drawn0.refl _ | apply Drawn0.step)⟩
          ·rw [if_neg c10] at H
           have c10b0 : (((rd_T26 l0 x5_1).f1) == ((rd_T26 l1 x5_1).f1)) = false := beq_eq_false_iff_ne.mpr c10
           have c10b1 : (((rd_T26 l0 x5_1).f1) != ((rd_T26 l1 x5_1).f1)) = true := bne_iff_ne.mpr c10
           obtain rfl := Option.some.inj H
           have p243 : 0 ≤ (x5_1 : Int) := of_decide_eq_true (by first | (with_reducible assumption) | assumption)
           have q243 : x5_1 < (l0.length : Int) := of_decide_eq_true (by first | (with_reducible assumption) | assumption)
           obtain ⟨ad243, e243, hx243_0, hx243_1⟩ := at_T26 HR0.out x5_1 p243 q243
           cases e243
           replace p243 := eq_true p243
           replace q243 := eq_true q243
           have p244 : 0 ≤ (x5_1 : Int) := of_decide_eq_true (by first | (with_reducible assumption) | assumption)
           have q244 : x5_1 < (l1.length : Int) := of_decide_eq_true (by first | (with_reducible assumption) | assumption)
           obtain ⟨ad244, e244, hx244_0, hx244_1⟩ := at_T26 HR1.out x5_1 p244 q244
           cases e244
           replace p244 := eq_true p244
           replace q244 := eq_true q244
           have p245 : 0 ≤ (x5_1 : Int) := of_decide_eq_true (by first | (with_reducible assumption) | assumption)
           have q245 : x5_1 < (l0.length : Int) := of_decide_eq_true (by first | (with_reducible assumption) | assumption)
           obtain ⟨ad245, e245, hx245_0, hx245_1⟩ := at_T26 HR0.out x5_1 p245 q245
           obtain rfl : ad243 = ad245 := (by injection e245)
           replace p245 := eq_true p245
           replace q245 := eq_true q245
           have p246 : 0 ≤ (x5_1 : Int) := of_decide_eq_true (by first | (with_reducible assumption) | assumption)
           have q246 : x5_1 < (l1.length : Int) := of_decide_eq_true (by first | (with_reducible assumption) | assumption)
           obtain ⟨ad246, e246, hx246_0, hx246_1⟩ := at_T26 HR1.out x5_1 p246 q246
           obtain rfl : ad244 = ad246 := (by injection e246)
           replace p246 := eq_true p246
           replace q246 := eq_true q246
           have p247 : 0 ≤ (x5_1 : Int) := of_decide_eq_true (by first | (with_reducible assumption) | assumption)
           have q247 : x5_1 < (l0.length : Int) := of_decide_eq_true (by first | (with_reducible assumption) | assumption)
           obtain ⟨ad247, e247, hx247_0, hx247_1⟩ := at_T26 HR0.out x5_1 p247 q247
           obtain rfl : ad243 = ad247 := (by injection e247)
           replace p247 := eq_true p247
           replace q247 := eq_true q247
           have p248 : 0 ≤ (x5_1 : Int) := of_decide_eq_true (by first | (with_reducible assumption) | assumption)
           have q248 : x5_1 < (l1.length : Int) := of_decide_eq_true (by first | (with_reducible assumption) | assumption)
           obtain ⟨ad248, e248, hx248_0, hx248_1⟩ := at_T26 HR1.out x5_1 p248 q248
           obtain rfl : ad244 = ad248 := (by injection e248)
           replace p248 := eq_true p248
           replace q248 := eq_true q248
           go_wp2
           repeat (go_quiet (fail); try go_wp2)
           go_ret
           exact ⟨by first | rfl | (simp; done) | (simp [*]; done), by repeat (first | exact Drawn0.refl _ | apply Drawn0.step)⟩
         ·rw [if_neg c9] at H
          have c9b0 : (((rd_T26 l0 x5_1).f0) == ((rd_T26 l1 x5_1).f0)) = false := beq_eq_false_iff_ne.mpr c9
          have c9b1 : (((rd_T26 l0 x5_1).f0) != ((rd_T26 l1 x5_1).f0)) = true := bne_iff_ne.mpr c9
          obtain rfl := Option.some.inj H
          have p243 : 0 ≤ (x5_1 : Int) := of_decide_eq_true (by first | (with_reducible assumption) | assumption)
          have q243 : x5_1 < (l0.length : Int) := of_decide_eq_true (by first | (with_reducible assumption) | assumption)
          obtain ⟨ad243, e243, hx243_0, hx243_1⟩ := at_T26 HR0.out x5_1 p243 q243
          cases e243
          replace p243 := eq_true p243
          replace q243 := eq_true q243
          have p244 : 0 ≤ (x5_1 : Int) := of_decide_eq_true (by first | (with_reducible assumption) | assumption)
          have q244 : x5_1 < (l1.length : Int) := of_decide_eq_true (by first | (with_reducible assumption) | assumption)
          obtain ⟨ad244, e244, hx244_0, hx244_1⟩ := at_T26 HR1.out x5_1 p244 q244
          cases e244
          replace p244 := eq_true p244
          replace q244 := eq_true q244
          have p249 : 0 ≤ (x5_1 : Int) := of_decide_eq_true (by first | (with_reducible assumption) | assumption)
          have q249 : x5_1 < (l0.length : Int) := of_decide_eq_true (by first | (with_reducible assumption) | assumption)
          obtain ⟨ad249, e249, hx249_0, hx249_1⟩ := at_T26 HR0.out x5_1 p249 q249
          obtain rfl : ad243 = ad249 := (by injection e249)
          replace p249 := eq_true p249
          replace q249 := eq_true q249
          have p250 : 0 ≤ (x5_1 : Int) := of_decide_eq_true (by first | (with_reducible assumption) | assumption)
          have q250 : x5_1 < (l1.length : Int) := of_decide_eq_true (by first | (with_reducible assumption) | assumption)
          obtain ⟨ad250, e250, hx250_0, hx250_1⟩ := at_T26 HR1.out x5_1 p250 q250
          obtain rfl : ad244 = ad250 := (by injection e250)
          replace p250 := eq_true p250
          replace q250 := eq_true q250
          go_wp2
          repeat (go_quiet (fail); try go_wp2)
          go_ret
          exact ⟨by first | rfl | (simp; done) | (simp [*]; done), by repeat (first | exact Drawn0.refl _ | apply Drawn0.step)⟩
        ·rw [if_neg c8] at H
         exact absurd H (by simp)
       ·rw [if_neg c7] at H
        exact absurd H (by simp)
      ·rw [if_neg c6] at H
       exact absurd H (by simp)
     ·replace c5 := Bool.eq_false_iff.mpr c5
      subst c5
      have H1 : (some (decide ((l0.length : Int) < (l1.length : Int)))) = some r := by rw [if_neg (show ¬ (false = true) by decide)] at H; exact H
      clear H
      have H := H1
      clear H1
      obtain rfl := Option.some.inj H
      go_wp2
      repeat (go_quiet (fail); try go_wp2)
      go_ret
      exact ⟨by first | rfl | (simp; done) | (simp [*]; done), by repeat (first | exact Drawn0.refl _ | apply Drawn0.step)⟩

end Go.Proofs.Ytmkelmacllkbeaa.PLeastAll
