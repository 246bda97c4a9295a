/- What the given program's functions come to, each a Lean function and the walk that shows it: no condition beside those that each theorem names. -/
import Derived.Test.YtdegajidkboknaaPCanonAnyx0
import Derived.Test.YtdegajidkboknaaPCanonAnyx1
import Derived.Test.YtdegajidkboknaaPCanonAnyx3
import Derived.Test.YtdegajidkboknaaPCanonAnyx6
namespace Go.Proofs.Ytdegajidkboknaa.PCanonAny
open Go.RowKit Go.Proofs.YtdegajidkboknaaW.PrintWords Go.Proofs.YtdegajidkboknaaW.PrintLast Go.Proofs.YtdegajidkboknaaW.PrintMore
attribute [local go_sem] max2_int min2_int max_two min_two max_three min_three max_four min_four   -- for this text's walks alone
set_option linter.unusedVariables false
set_option linter.unusedSimpArgs false

attribute [local go_sem high] eqA28
/-! ### canon_Left: function 9 -/
def canon_Left.l0 : Nat → List Int → List (S28) → Int → List (S28) → Int → Int → Option ((List (S28)) × Int)
 | 0, _, _, _, _, _, _ => none
 | k + 1, x1, x8, x9, x17, x18, x19 => if x19 < x18 then (if 0 ≤ x19 then (if x19 < (x17.length : Int) then (if 0 ≤ ((rd_T28 x17 x19).f1) then (if ((rd_T28 x17 x19).f1) < (x1.length : Int) then ((canon_first.f k x1 (rd x1 ((rd_T28 x17 x19).f1)) x9).bind fun t174 => (if x8.length < 8796093022208 then (canon_Left.l0 k x1 (x8 ++ [(⟨(rd_T28 x17 x19).f0, t174⟩ : S28)]) t174 x17 x18 (wrap64 (x19 + 1))) else (none))) else (none)) else (none)) else (none)) else (none)) else (some (x8, 0))
def canon_Left.f (k : Nat) (l0 : List Int) (l1 : List Int) (l2 : List (S28)) : Option ((List (S28)) × Int) := (pairs_Good.f k l0 l1 l2).bind fun t170 => (if t170 = true then (canon_Left.l0 k l1 ([] : List (S28)) (-1) l2 (l2.length : Int) 0) else (some (([] : List (S28)), 1)))
theorem canon_Left.mono_l : ∀ k, (∀ y0 y1 y2 y3 y4 y5, LeO (canon_Left.l0 k y0 y1 y2 y3 y4 y5) (canon_Left.l0 (k + 1) y0 y1 y2 y3 y4 y5))
 | 0 => fun _ _ _ _ _ _ r h => by simp [canon_Left.l0] at h
 | k + 1 => by
  have ih0 := canon_Left.mono_l k
  ·intro y0 y1 y2 y3 y4 y5
   unfold canon_Left.l0
   repeat' first
   | (with_reducible exact ih0 _ _ _ _ _ _)
   | (with_reducible exact canon_first.mono _ _ _ _)
   | (with_reducible exact pairs_Good.mono _ _ _ _)
   | (with_reducible exact LeO.refl _)
   | (with_reducible exact LeO.none _)
   | (with_reducible refine LeO.ite ?_ ?_)
   | (with_reducible refine LeO.bind ?_ (fun _ => ?_))
   | exact ih0 _ _ _ _ _ _
   | exact canon_first.mono _ _ _ _
   | exact pairs_Good.mono _ _ _ _
   | exact LeO.none _
   | refine LeO.ite ?_ ?_
   | refine LeO.bind ?_ (fun _ => ?_)
theorem canon_Left.mono : ∀ a0 a1 a2 k, LeO (canon_Left.f k a0 a1 a2) (canon_Left.f (k + 1) a0 a1 a2) := by
 intro a0 a1 a2 k
 have ih0 := canon_Left.mono_l k
 unfold canon_Left.f
 repeat' first
   | (with_reducible exact ih0 _ _ _ _ _ _)
   | (with_reducible exact canon_first.mono _ _ _ _)
   | (with_reducible exact pairs_Good.mono _ _ _ _)
   | (with_reducible exact LeO.refl _)
   | (with_reducible exact LeO.none _)
   | (with_reducible refine LeO.ite ?_ ?_)
   | (with_reducible refine LeO.bind ?_ (fun _ => ?_))
   | exact ih0 _ _ _ _ _ _
   | exact canon_first.mono _ _ _ _
   | exact pairs_Good.mono _ _ _ _
   | exact LeO.none _
   | refine LeO.ite ?_ ?_
   | refine LeO.bind ?_ (fun _ => ?_)
set_option maxHeartbeats 8000000 in
set_option maxRecDepth 100000 in
theorem canon_Left.calls (k : Nat) (A0 : Option Addr) (c0 : Nat) (l0 : List Int) (A1 : Option Addr) (c1 : Nat) (l1 : List Int) (A2 : Option Addr) (c2 : Nat) (l2 : List (S28)) (r1 : List (S28)) (r2 : Int) (w : World) (hr0 : Kd.C (Kd.int .i64) w A0 l0.length l0) (hc0 : l0.length ≤ c0) (hr1 : Kd.C (Kd.int .i64) w A1 l1.length l1) (hc1 : l1.length ≤ c1) (hr2 : Kd.C k28 w A2 l2.length l2) (hc2 : l2.length ≤ c2) (h : canon_Left.f k l0 l1 l2 = some (r1, r2)) :
  Calls Try.prog 9 #[.slice A0 l0.length c0, .slice A1 l1.length c1, .slice A2 l2.length c2] w fun e w' => ∃ v0_ : Value, e = .returned (.tuple #[v0_, .int .i64 r2]) ∧ Kd.R k28 28 w' w.heap.size (fun _ => True) v0_ r1 ∧ Below w.heap.size w w' := by
 have hu28 := Try.underlying28
 have HR0 := Aside0.mk hr0
 have HC0 := Aside0.mk hc0
 clear hr0 hc0
 have HR1 := Aside0.mk hr1
 have HC1 := Aside0.mk hc1
 clear hr1 hc1
 have HR2 := Aside0.mk hr2
 have HC2 := Aside0.mk hc2
 clear hr2 hc2
 have HB := Aside0.mk (Below.refl w.heap.size w)
 have H : ((pairs_Good.f k l0 l1 l2).bind fun t170 => (if t170 = true then (canon_Left.l0 k l1 ([] : List (S28)) (-1) l2 (l2.length : Int) 0) else (some (([] : List (S28)), 1)))) = some (r1, r2) := h
 clear h
 replace H := Option.bind_eq_some_iff.mp H
 obtain ⟨t170, A40, H⟩ := H
 replace H : (if t170 = true then (canon_Left.l0 k l1 ([] : List (S28)) (-1) l2 (l2.length : Int) 0) else (some (([] : List (S28)), 1))) = some (r1, r2) := H
 have A4 := Aside0.mk A40
 clear A40
 by_cases c5 : t170 = true
 ·subst c5
  have H1 : (canon_Left.l0 k l1 ([] : List (S28)) (-1) l2 (l2.length : Int) 0) = some (r1, r2) := by rw [if_pos rfl] at H; exact H
  clear H
  have H := H1
  clear H1
  have H' := Aside0.mk H
  clear H
  go_enter Try.func9, Try.ntmps9
  go_wp2_with (first | ((first | (with_reducible refine gate_callee (f := 23) rfl ?_); refine goesL_ (some 15) rfl rfl Try.func23 (by kernel_rfl) rfl #[.slice A0 l0.length c0, .slice A1 l1.length c1, .slice A2 l2.length c2] rfl (by (try simp only [List.map_toArray, List.map_cons, List.map_nil]); first | done | rfl | (simp only [List.length_drop, List.length_take]; rfl)) ?_ | go_at_call 23); (with_reducible refine (pairs_Good.calls k _ _ l0 _ _ l1 _ _ l2 true _ ?side1 ?side2 ?side3 ?side4 ?side5 ?side6 A4.out).mono ?_); (case side1 => repeat (first | exact HR0.out | (with_reducible refine Kd.C_alloc ?_ _) | (with_reducible refine Kd.C_drewN ?_ _) | (with_reducible refine Kd.C_drew ?_))); (case side2 => exact HC0.out); (case side3 => repeat (first | exact HR1.out | (with_reducible refine Kd.C_alloc ?_ _) | (with_reducible refine Kd.C_drewN ?_ _) | (with_reducible refine Kd.C_drew ?_))); (case side4 => exact HC1.out); (case side5 => repeat (first | exact HR2.out | (with_reducible refine Kd.C_alloc ?_ _) | (with_reducible refine Kd.C_drewN ?_ _) | (with_reducible refine Kd.C_drew ?_))); (case side6 => exact HC2.out); rintro e w6 ⟨rfl, hb⟩; (try refine ⟨_, rfl, ?_⟩); have n0_ := Aside0.mk (below_step (by repeat (first | (with_reducible first | exact HB.out | apply below_alloc | apply pw_below_drewN | apply below_drew1) | exact HB.out)) hb); clear HB; have HB := n0_; clear n0_; (try clear hb); (try clear hb2); (try clear hk); (try clear hi)))
  go_loopg [8, 9, 19] k (fun kq v8 v9 v19 w' => ∃ (x8_1 : List (S28)) (x9_1 : Int) (x19_1 : Int), v9 = .int .i64 x9_1 ∧ v19 = .int .i64 x19_1 ∧ Aside0 (canon_Left.l0 kq l1 x8_1 x9_1 l2 (l2.length : Int) x19_1 = some (r1, r2)) ∧ Aside0 (kq ≤ k) ∧ Aside0 (Kd.R k28 28 w' w.heap.size (fun _ => True) v8 x8_1) ∧ Aside0 (Below w.heap.size w w'))
  case atStart => exact ⟨(([] : List (S28))), ((-1)), (0), (by first | rfl | (simp; done) | (simp [*]; done)), (by first | rfl | (simp; done) | (simp [*]; done)), H', ⟨Nat.le_refl _⟩, ⟨by first | exact Kd.R_nil _ _ _ _ _ | exact Kd.N_nil _ _ _ _ _ | exact Kd.V_nil _ _ _ _ _ | exact Kd.Q_nil _ _ _ _ _ | exact Kd.S_nil _ _ _ _ _⟩, ⟨by repeat (first | (with_reducible first | exact HB.out | apply below_alloc | apply pw_below_drewN | apply below_drew1) | exact HB.out)⟩⟩
  case round =>
   clear H'
   try clear c1
   try clear c2
   try clear p2
   try clear c5
   obtain ⟨x8_1, x9_1, x19_1, rfl, rfl, HA, HK1, HO_8, HB⟩ := hrel
   cases gk with
   | zero => exact absurd HA.out (by simp [canon_Left.l0])
   | succ k1 =>
    have H := HA.out
    clear HA
    simp only [canon_Left.l0] at H
    by_cases c7 : x19_1 < (l2.length : Int)
    ·rw [if_pos c7] at H
     have c7b0 : decide (x19_1 < (l2.length : Int)) = true := decide_eq_true c7
     clear c7
     by_cases c8 : 0 ≤ x19_1
     ·rw [if_pos c8] at H
      have c8b0 : decide (0 ≤ x19_1) = true := decide_eq_true c8
      clear c8
      by_cases c9 : x19_1 < (l2.length : Int)
      ·rw [if_pos c9] at H
       have c9b0 : decide (x19_1 < (l2.length : Int)) = true := decide_eq_true c9
       clear c9
       by_cases c10 : 0 ≤ ((rd_T28 l2 x19_1).f1)
       ·rw [if_pos c10] at H
        have c10b0 : decide (0 ≤ ((rd_T28 l2 x19_1).f1)) = true := decide_eq_true c10
        clear c10
        by_cases c11 : ((rd_T28 l2 x19_1).f1) < (l1.length : Int)
        ·rw [if_pos c11] at H
         have c11b0 : decide (((rd_T28 l2 x19_1).f1) < (l1.length : Int)) = true := decide_eq_true c11
         clear c11
         replace H := Option.bind_eq_some_iff.mp H
         obtain ⟨t174, A120, H⟩ := H
         replace H : (if x8_1.length < 8796093022208 then (canon_Left.l0 k1 l1 (x8_1 ++ [(⟨(rd_T28 l2 x19_1).f0, t174⟩ : S28)]) t174 l2 (l2.length : Int) (wrap64 (x19_1 + 1))) else (none)) = some (r1, r2) := H
         have A12 := Aside0.mk A120
         clear A120
         by_cases c13 : x8_1.length < 8796093022208
         ·rw [if_pos c13] at H
          have LMc13 := Aside0.mk c13
          clear c13
          obtain ⟨y175, hy175⟩ : ∃ y_ : List (S28), y_ = (x8_1 ++ [(⟨(rd_T28 l2 x19_1).f0, t174⟩ : S28)]) := ⟨_, rfl⟩
          replace H : (canon_Left.l0 k1 l1 y175 t174 l2 (l2.length : Int) (wrap64 (x19_1 + 1))) = some (r1, r2) := by first | (rw [hy175]; with_reducible exact H) | (have H2_ := (Option.bind_some _ _).symm.trans H; rw [hy175]; with_reducible exact H2_) | (have H2_ := (Option.bind_some _ _).symm.trans H; with_reducible exact H2_) | with_reducible exact H | (rw [hy175]; exact H) | exact H
          have Ny175 := Aside0.mk hy175
          clear hy175
          have H' := Aside0.mk H
          clear H
          have p171 : 0 ≤ (x19_1 : Int) := of_decide_eq_true (by first | (with_reducible assumption) | assumption)
          have q171 : x19_1 < (l2.length : Int) := of_decide_eq_true (by first | (with_reducible assumption) | assumption)
          obtain ⟨ad171, e171, hx171_0, hx171_1⟩ := at_T28 HR2.out x19_1 p171 q171
          cases e171
          replace hx171_0 := (HB.out.cell (World.block_lt_of_cell? w _ hx171_0)).trans hx171_0
          replace hx171_1 := (HB.out.cell (World.block_lt_of_cell? w _ hx171_1)).trans hx171_1
          replace p171 := eq_true p171
          replace q171 := eq_true q171
          go_wp2_with (first | ((with_reducible refine gate_dst (N := 11) rfl ?_); refine box_event ?hg (N := 11) ?hd (cs := #[.int .i64 0, .int .i64 0]) (t := 28) ?hr ?_; (case hd => rfl); (case hg => rfl); (case hr => first | (go_simp; done) | (go_simp; rfl)); intro gb172 hg w14 hbox hb; have n0_ := Aside0.mk (Kd.R_below (Kd.R_elderB (by (with_reducible repeat (first | apply Kd.R_alloc | apply Kd.R_drewN | apply Kd.R_drew)); exact HO_8.out) gb172 (Nat.le_of_eq hg.symm)) hb); have n1_ := Aside0.mk (below_step (by repeat (first | (with_reducible first | exact HB.out | apply below_alloc | apply pw_below_drewN | apply below_drew1) | exact HB.out)) hb); have n2_ := Aside0.mk (hbox); have n3_ := Aside0.mk ((by rw [hg]; exact (below_size (by repeat (first | (with_reducible first | exact HB.out | apply below_alloc | apply pw_below_drewN | apply below_drew1) | exact HB.out))) : w.heap.size ≤ gb172)); have n4_ := Aside0.mk ((by rw [hg]; exact (below_size (by repeat (first | (with_reducible first | exact HB.out | apply below_alloc | apply pw_below_drewN | apply below_drew1) | exact HB.out))) : w.heap.size ≤ gb172)); clear HO_8; clear HB; have HO_8 := n0_; have HB := n1_; have BK172 := n2_; have GW172 := n3_; have GE172 := n4_; clear n0_ n1_ n2_ n3_ n4_; (try clear hb); (try clear hbox); (try clear hg); have hcz15_0 : w14.cell? ⟨gb172, 0, none⟩ = some (.int .i64 0) := (blk_cell BK172.out 0).trans rfl; have hcz15_1 : w14.cell? ⟨gb172, 1, none⟩ = some (.int .i64 0) := (blk_cell BK172.out 1).trans rfl; have hfz15_0 := blk_frozen BK172.out 0; have hfz15_1 := blk_frozen BK172.out 1; have p173 : 0 ≤ (((rd_T28 l2 x19_1).f1) : Int) := of_decide_eq_true (by first | (with_reducible assumption) | assumption); have q173 : ((rd_T28 l2 x19_1).f1) < (l1.length : Int) := of_decide_eq_true (by first | (with_reducible assumption) | assumption); obtain ⟨ad173, e173, hx173_0⟩ := Kd.at_int HR1.out ((rd_T28 l2 x19_1).f1) p173 q173; cases e173; have hn173_0 : ad173.block ≠ gb172 := Nat.ne_of_lt (Nat.lt_of_lt_of_le (by have := World.block_lt_of_cell? _ _ hx173_0; first | rwa [add_block] at this | exact this) GW172.out); have hn173_1 : ad173.block ≠ gb172 := Nat.ne_of_lt (Nat.lt_of_lt_of_le (by have := World.block_lt_of_cell? _ _ hx173_0; first | rwa [add_block] at this | exact this) GW172.out); replace hx173_0 := (HB.out.cell (World.block_lt_of_cell? w _ hx173_0)).trans hx173_0; replace hx173_0 := (cell_far (p := ⟨gb172, 0, none⟩) (by first | (rw [add_block]; exact hn173_0) | (show (Addr.add _ _).block ≠ _; rw [add_block]; exact hn173_0) | exact hn173_0) (.int .i64 ((rd_T28 l2 x19_1).f0))).trans hx173_0; replace hx173_0 := (cell_far (p := ⟨gb172, 1, none⟩) (by first | (rw [add_block]; exact hn173_1) | (show (Addr.add _ _).block ≠ _; rw [add_block]; exact hn173_1) | exact hn173_1) (.int .i64 ((rd_T28 l2 x19_1).f1))).trans hx173_0; clear hn173_0; clear hn173_1; replace p173 := eq_true p173; replace q173 := eq_true q173) | ((first | (with_reducible refine gate_callee (f := 26) rfl ?_); refine goesL_ (some 30) rfl rfl Try.func26 (by kernel_rfl) rfl #[.slice (some ad173) l1.length c1, .int .i64 (rd l1 ((rd_T28 l2 x19_1).f1)), .int .i64 x9_1] rfl (by (try simp only [List.map_toArray, List.map_cons, List.map_nil]); first | done | rfl | (simp only [List.length_drop, List.length_take]; rfl)) ?_ | go_at_call 26); (with_reducible refine (canon_first.calls k1 _ _ l1 (rd l1 ((rd_T28 l2 x19_1).f1)) x9_1 t174 _ ?side1 ?side2 A12.out).mono ?_); (case side1 => exact Kd.C_below HR1.out (by repeat (first | (with_reducible first | exact HB.out | apply below_alloc | apply pw_below_drewN | apply below_drew1 | refine below_set ?_ GE172.out) | exact HB.out))); (case side2 => exact HC1.out); rintro e w' ⟨rfl, ⟨nd, rfl⟩⟩; (try refine ⟨_, rfl, ?_⟩)) | ((with_reducible refine gate_builtin (b := .append) (xs := #[.tmp 31, .tmp 36]) rfl ?_); at_builtin; refine Kd.R_append k28 (w0 := w) w.heap.size rfl (.tmp 31) (.tmp 36) 22 28 (.agg #[(.int .i64 0), (.int .i64 0)]) 16 rfl Try.underlying22 info28 rfl (by decide) (by omega) u8 x8_1 (⟨(rd_T28 l2 x19_1).f0, t174⟩ : S28) [.int .i64 ((rd_T28 l2 x19_1).f0), .int .i64 t174] (fun k_ => k_ ≠ gb172) (fun _ => False) rfl (by first | (go_simp; done) | (go_simp; rfl)) ?aP (fun _ hk => hk.elim) ?aF ?aO ?aB ?aS ?aL ?_; (case aP => exact k28_mkM _ _ _ (⟨(rd_T28 l2 x19_1).f0, t174⟩ : S28)); (case aB => exact (by repeat (first | (with_reducible first | exact HB.out | apply below_alloc | apply pw_below_drewN | apply below_drew1 | refine below_set ?_ GE172.out) | exact HB.out))); (case aF => exact (fun k_ hk => Kd.freshB (g := gb172) (o := .cells #[.int .i64 ((rd_T28 l2 x19_1).f0), .int .i64 ((rd_T28 l2 x19_1).f1)] 28 (0, 0)) (by (with_reducible repeat (first | refine blk_drewN ?_ _ | refine blk_drew ?_ | refine blk_alloc ?_ _)); refine blk_put (cs := #[.int .i64 ((rd_T28 l2 x19_1).f0), .int .i64 0]) ?_ 1 _ rfl; (with_reducible repeat (first | refine blk_drewN ?_ _ | refine blk_drew ?_ | refine blk_alloc ?_ _)); refine blk_put (cs := #[.int .i64 0, .int .i64 0]) ?_ 0 _ rfl; (with_reducible repeat (first | refine blk_drewN ?_ _ | refine blk_drew ?_ | refine blk_alloc ?_ _)); exact BK172.out) k_ hk)); (case aO => exact (by (with_reducible repeat (first | apply Kd.R_alloc | apply Kd.R_drewN | apply Kd.R_drew)); exact Kd.R_mono (Kd.R_far (p := ⟨gb172, 1, none⟩) (Kd.R_far (p := ⟨gb172, 0, none⟩) (Kd.R_mono HO_8.out (fun k_ hk => (⟨hk, hk.2⟩ : _ ∧ k_ ≠ gb172))) (fun _ hk => hk.2) (.int .i64 ((rd_T28 l2 x19_1).f0))) (fun _ hk => hk.2) (.int .i64 ((rd_T28 l2 x19_1).f1))) (fun _ hk => hk.1.2))); (case aS => exact (below_size (by repeat (first | (with_reducible first | exact HB.out | apply below_alloc | apply pw_below_drewN | apply below_drew1 | refine below_set ?_ GE172.out) | exact HB.out)))); (case aL => have := LMc13.out; omega); intro v176 w16 ho hb hg hat; rw [← Ny175.out] at ho; have n0_ := Aside0.mk (blk_grown (g := gb172) (o := .cells #[.int .i64 ((rd_T28 l2 x19_1).f0), .int .i64 ((rd_T28 l2 x19_1).f1)] 28 (0, 0)) (by (with_reducible repeat (first | refine blk_drewN ?_ _ | refine blk_drew ?_ | refine blk_alloc ?_ _)); refine blk_put (cs := #[.int .i64 ((rd_T28 l2 x19_1).f0), .int .i64 0]) ?_ 1 _ rfl; (with_reducible repeat (first | refine blk_drewN ?_ _ | refine blk_drew ?_ | refine blk_alloc ?_ _)); refine blk_put (cs := #[.int .i64 0, .int .i64 0]) ?_ 0 _ rfl; (with_reducible repeat (first | refine blk_drewN ?_ _ | refine blk_drew ?_ | refine blk_alloc ?_ _)); exact BK172.out) hg (Kd.R_away HO_8.out (fun _ hk => hk.2))); have n1_ := Aside0.mk (hb); have n2_ := Aside0.mk (ho); clear BK172; clear HB; clear HO_8; have BK172 := n0_; have HB := n1_; have HO177 := n2_; clear n0_ n1_ n2_; (try clear ho); (try clear hb); (try clear hg); (try clear hat)))
          go_roundg k1
          case measure => have := HK1.out; omega
          case rel => exact ⟨(y175), (t174), (wrap64 (x19_1 + 1)), (by first | rfl | (simp; done) | (simp [*]; done)), (by first | rfl | (simp; done) | (simp [*]; done)), H', ⟨by have := HK1.out; omega⟩, ⟨by (with_reducible repeat (first | apply Kd.R_alloc | apply Kd.R_drewN | apply Kd.R_drew)); exact Kd.R_mono HO177.out (fun _ hk => trivial)⟩, ⟨by repeat (first | (with_reducible first | exact HB.out | apply below_alloc | apply pw_below_drewN | apply below_drew1 | refine below_set ?_ GE172.out) | exact HB.out)⟩⟩
         ·rw [if_neg c13] at H
          exact absurd H (by simp)
        ·rw [if_neg c11] at H
         exact absurd H (by simp)
       ·rw [if_neg c10] at H
        exact absurd H (by simp)
      ·rw [if_neg c9] at H
       exact absurd H (by simp)
     ·rw [if_neg c8] at H
      exact absurd H (by simp)
    ·rw [if_neg c7] at H
     have c7b0 : decide (x19_1 < (l2.length : Int)) = false := decide_eq_false c7
     clear c7
     simp only [Option.some.injEq, Prod.mk.injEq] at H
     obtain ⟨rfl, rfl⟩ := H
     go_wp2
     go_ret2
     exact ⟨_, by first | rfl | (simp [errW_none, errW_some] <;> rfl) | (simp [*, errW_none, errW_some] <;> rfl), by (with_reducible repeat (first | apply Kd.R_alloc | apply Kd.R_drewN | apply Kd.R_drew)); exact HO_8.out, by repeat (first | (with_reducible first | exact HB.out | apply below_alloc | apply pw_below_drewN | apply below_drew1) | exact HB.out)⟩
 ·replace c5 := Bool.eq_false_iff.mpr c5
  subst c5
  have H1 : (some (([] : List (S28)), 1)) = some (r1, r2) := by rw [if_neg (show ¬ (false = true) by decide)] at H; exact H
  clear H
  have H := H1
  clear H1
  simp only [Option.some.injEq, Prod.mk.injEq] at H
  obtain ⟨rfl, rfl⟩ := H
  go_enter Try.func9, Try.ntmps9
  go_wp2_with (first | ((first | (with_reducible refine gate_callee (f := 23) rfl ?_); refine goesL_ (some 15) rfl rfl Try.func23 (by kernel_rfl) rfl #[.slice A0 l0.length c0, .slice A1 l1.length c1, .slice A2 l2.length c2] rfl (by (try simp only [List.map_toArray, List.map_cons, List.map_nil]); first | done | rfl | (simp only [List.length_drop, List.length_take]; rfl)) ?_ | go_at_call 23); (with_reducible refine (pairs_Good.calls k _ _ l0 _ _ l1 _ _ l2 false _ ?side1 ?side2 ?side3 ?side4 ?side5 ?side6 A4.out).mono ?_); (case side1 => repeat (first | exact HR0.out | (with_reducible refine Kd.C_alloc ?_ _) | (with_reducible refine Kd.C_drewN ?_ _) | (with_reducible refine Kd.C_drew ?_))); (case side2 => exact HC0.out); (case side3 => repeat (first | exact HR1.out | (with_reducible refine Kd.C_alloc ?_ _) | (with_reducible refine Kd.C_drewN ?_ _) | (with_reducible refine Kd.C_drew ?_))); (case side4 => exact HC1.out); (case side5 => repeat (first | exact HR2.out | (with_reducible refine Kd.C_alloc ?_ _) | (with_reducible refine Kd.C_drewN ?_ _) | (with_reducible refine Kd.C_drew ?_))); (case side6 => exact HC2.out); rintro e w17 ⟨rfl, hb⟩; (try refine ⟨_, rfl, ?_⟩); have n0_ := Aside0.mk (below_step (by repeat (first | (with_reducible first | exact HB.out | apply below_alloc | apply pw_below_drewN | apply below_drew1) | exact HB.out)) hb); clear HB; have HB := n0_; clear n0_; (try clear hb); (try clear hb2); (try clear hk); (try clear hi)))
  go_ret2
  exact ⟨_, by first | rfl | (simp [errW_none, errW_some] <;> rfl) | (simp [*, errW_none, errW_some] <;> rfl), by first | exact Kd.R_nil _ _ _ _ _ | exact Kd.N_nil _ _ _ _ _ | exact Kd.V_nil _ _ _ _ _ | exact Kd.Q_nil _ _ _ _ _ | exact Kd.S_nil _ _ _ _ _, by repeat (first | (with_reducible first | exact HB.out | apply below_alloc | apply pw_below_drewN | apply below_drew1) | exact HB.out)⟩

/-! ### pairs_Turn: function 27 -/
def pairs_Turn.l0 : Nat → List (S28) → List (S28) → Int → Int → Option ((List (S28)))
 | 0, _, _, _, _ => none
 | k + 1, x3, x9, x10, x11 => if x11 < x10 then (if 0 ≤ x11 then (if x11 < (x9.length : Int) then (if x11 < (x3.length : Int) then (pairs_Turn.l0 k (x3.set (x11 : Int).toNat (⟨(rd_T28 x9 x11).f1, (rd_T28 x9 x11).f0⟩ : S28)) x9 x10 (wrap64 (x11 + 1))) else (none)) else (none)) else (none)) else (some x3)
def pairs_Turn.f (k : Nat) (l0 : List (S28)) : Option ((List (S28))) := if 0 ≤ (l0.length : Int) then (if ((l0.length : Int) : Int).toNat ≤ 17592186044416 then (pairs_Turn.l0 k (List.replicate ((l0.length : Int) : Int).toNat z28) l0 (l0.length : Int) 0) else (none)) else (none)
theorem pairs_Turn.mono_l : ∀ k, (∀ y0 y1 y2 y3, LeO (pairs_Turn.l0 k y0 y1 y2 y3) (pairs_Turn.l0 (k + 1) y0 y1 y2 y3))
 | 0 => fun _ _ _ _ r h => by simp [pairs_Turn.l0] at h
 | k + 1 => by
  have ih0 := pairs_Turn.mono_l k
  ·intro y0 y1 y2 y3
   unfold pairs_Turn.l0
   repeat' first
   | (with_reducible exact ih0 _ _ _ _)
   | (with_reducible exact LeO.refl _)
   | (with_reducible exact LeO.none _)
   | (with_reducible refine LeO.ite ?_ ?_)
   | (with_reducible refine LeO.bind ?_ (fun _ => ?_))
   | exact ih0 _ _ _ _
   | exact LeO.none _
   | refine LeO.ite ?_ ?_
   | refine LeO.bind ?_ (fun _ => ?_)
theorem pairs_Turn.mono : ∀ a0 k, LeO (pairs_Turn.f k a0) (pairs_Turn.f (k + 1) a0) := by
 intro a0 k
 have ih0 := pairs_Turn.mono_l k
 unfold pairs_Turn.f
 repeat' first
   | (with_reducible exact ih0 _ _ _ _)
   | (with_reducible exact LeO.refl _)
   | (with_reducible exact LeO.none _)
   | (with_reducible refine LeO.ite ?_ ?_)
   | (with_reducible refine LeO.bind ?_ (fun _ => ?_))
   | exact ih0 _ _ _ _
   | exact LeO.none _
   | refine LeO.ite ?_ ?_
   | refine LeO.bind ?_ (fun _ => ?_)
set_option maxHeartbeats 8000000 in
set_option maxRecDepth 100000 in
theorem pairs_Turn.calls (k : Nat) (A0 : Option Addr) (c0 : Nat) (l0 : List (S28)) (r : List (S28)) (w : World) (hr0 : Kd.C k28 w A0 l0.length l0) (hc0 : l0.length ≤ c0) (h : pairs_Turn.f k l0 = some r) :
  Calls Try.prog 27 #[.slice A0 l0.length c0] w fun e w' => ∃ v0_ : Value, e = .returned (v0_) ∧ Kd.R k28 28 w' w.heap.size (fun _ => True) v0_ r ∧ Below w.heap.size w w' := by
 have hu28 := Try.underlying28
 have HR0 := Aside0.mk hr0
 have HC0 := Aside0.mk hc0
 clear hr0 hc0
 have HB := Aside0.mk (Below.refl w.heap.size w)
 have H : (if 0 ≤ (l0.length : Int) then (if ((l0.length : Int) : Int).toNat ≤ 17592186044416 then (pairs_Turn.l0 k (List.replicate ((l0.length : Int) : Int).toNat z28) l0 (l0.length : Int) 0) else (none)) else (none)) = some r := h
 clear h
 by_cases c2 : 0 ≤ (l0.length : Int)
 ·rw [if_pos c2] at H
  have c2b0 := eq_true c2
  have c2b1 : decide (0 ≤ (l0.length : Int)) = true := decide_eq_true c2
  clear c2
  by_cases c3 : ((l0.length : Int) : Int).toNat ≤ 17592186044416
  ·rw [if_pos c3] at H
   have c3b0 := eq_true c3
   have c3b1 : decide (((l0.length : Int) : Int).toNat ≤ 17592186044416) = true := decide_eq_true c3
   clear c3
   obtain ⟨y178, hy178⟩ : ∃ y_ : List (S28), y_ = (List.replicate ((l0.length : Int) : Int).toNat z28) := ⟨_, rfl⟩
   replace H : (pairs_Turn.l0 k y178 l0 (l0.length : Int) 0) = some r := by first | (rw [hy178]; with_reducible exact H) | (have H2_ := (Option.bind_some _ _).symm.trans H; rw [hy178]; with_reducible exact H2_) | (have H2_ := (Option.bind_some _ _).symm.trans H; with_reducible exact H2_) | with_reducible exact H | (rw [hy178]; exact H) | exact H
   have Ny178 := Aside0.mk hy178
   clear hy178
   have H' := Aside0.mk H
   clear H
   go_enter Try.func27, Try.ntmps27
   go_wp2_with (first | ((with_reducible refine gate_dst (N := 8) rfl ?_); refine Kd.R_make k28 _ 28 rfl (N := 8) rfl 22 _ _ rfl (l0.length : Int) rfl rfl Try.underlying22 (.agg #[(.int .i64 0), (.int .i64 0)]) 16 info28 rfl (by decide) (by omega) z28 (ok := fun _ => True) (okp := fun _ => True) (k28_mkM _ _ _ z28 ) (fun _ hk => hk) trivial (of_decide_eq_true (by first | (with_reducible assumption) | assumption)) (Nat.le_trans (Nat.mul_le_mul_right _ (of_decide_eq_true (by first | (with_reducible assumption) | assumption) : (l0.length : Int).toNat ≤ 17592186044416)) (by omega)) (Below.refl _ _) (Nat.le_refl _) ?_; intro v179 w4 ho5 hb hg_ hnew_; (try clear hg_); (try clear hnew_); (first | rw [← Ny178.out] at ho5 | (simp only [Int.reduceToNat] at ho5; rw [← Ny178.out] at ho5)); have n0_ := Aside0.mk (Kd.R_lower ho5 (below_size (by repeat (first | (with_reducible first | exact HB.out | apply below_alloc | apply pw_below_drewN | apply below_drew1) | exact HB.out)))); have n1_ := Aside0.mk (below_step (by repeat (first | (with_reducible first | exact HB.out | apply below_alloc | apply pw_below_drewN | apply below_drew1) | exact HB.out)) hb); clear HB; have HO180 := n0_; have HB := n1_; clear n0_ n1_; (try clear hb); (try clear ho5)))
   go_loopg [11] k (fun kq v11 w' => ∃ (x3_1 : List (S28)) (x11_1 : Int), v11 = .int .i64 x11_1 ∧ Aside0 (pairs_Turn.l0 kq x3_1 l0 (l0.length : Int) x11_1 = some r) ∧ Aside0 (kq ≤ k) ∧ Aside0 (Kd.R k28 28 w' w.heap.size (fun _ => True) v179 x3_1) ∧ Aside0 (Below w.heap.size w w'))
   case atStart => exact ⟨(y178), (0), (by first | rfl | (simp; done) | (simp [*]; done)), H', ⟨Nat.le_refl _⟩, ⟨by (with_reducible repeat (first | apply Kd.R_alloc | apply Kd.R_drewN | apply Kd.R_drew)); exact HO180.out⟩, ⟨by repeat (first | (with_reducible first | exact HB.out | apply below_alloc | apply pw_below_drewN | apply below_drew1) | exact HB.out)⟩⟩
   case round =>
    clear H'
    try clear c2
    try clear c2b0
    try clear c2b1
    try clear p2
    try clear c3
    try clear c3b0
    try clear c3b1
    obtain ⟨x3_1, x11_1, rfl, HA, HK1, HO_3, HB⟩ := hrel
    cases gk with
    | zero => exact absurd HA.out (by simp [pairs_Turn.l0])
    | succ k1 =>
     have H := HA.out
     clear HA
     simp only [pairs_Turn.l0] at H
     by_cases c6 : x11_1 < (l0.length : Int)
     ·rw [if_pos c6] at H
      have c6b0 : decide (x11_1 < (l0.length : Int)) = true := decide_eq_true c6
      clear c6
      by_cases c7 : 0 ≤ x11_1
      ·rw [if_pos c7] at H
       have c7b0 : decide (0 ≤ x11_1) = true := decide_eq_true c7
       clear c7
       by_cases c8 : x11_1 < (l0.length : Int)
       ·rw [if_pos c8] at H
        have c8b0 : decide (x11_1 < (l0.length : Int)) = true := decide_eq_true c8
        clear c8
        by_cases c9 : x11_1 < (x3_1.length : Int)
        ·rw [if_pos c9] at H
         have c9b0 : decide (x11_1 < (x3_1.length : Int)) = true := decide_eq_true c9
         clear c9
         obtain ⟨y183, hy183⟩ : ∃ y_ : List (S28), y_ = (x3_1.set (x11_1 : Int).toNat (⟨(rd_T28 l0 x11_1).f1, (rd_T28 l0 x11_1).f0⟩ : S28)) := ⟨_, rfl⟩
         replace H : (pairs_Turn.l0 k1 y183 l0 (l0.length : Int) (wrap64 (x11_1 + 1))) = some r := by first | (rw [hy183]; with_reducible exact H) | (have H2_ := (Option.bind_some _ _).symm.trans H; rw [hy183]; with_reducible exact H2_) | (have H2_ := (Option.bind_some _ _).symm.trans H; with_reducible exact H2_) | with_reducible exact H | (rw [hy183]; exact H) | exact H
         have Ny183 := Aside0.mk hy183
         clear hy183
         have H' := Aside0.mk H
         clear H
         have p181 : 0 ≤ (x11_1 : Int) := of_decide_eq_true (by first | (with_reducible assumption) | assumption)
         have q181 : x11_1 < (l0.length : Int) := of_decide_eq_true (by first | (with_reducible assumption) | assumption)
         obtain ⟨ad181, e181, hx181_0, hx181_1⟩ := at_T28 HR0.out x11_1 p181 q181
         cases e181
         replace hx181_0 := (HB.out.cell (World.block_lt_of_cell? w _ hx181_0)).trans hx181_0
         replace hx181_1 := (HB.out.cell (World.block_lt_of_cell? w _ hx181_1)).trans hx181_1
         replace p181 := eq_true p181
         replace q181 := eq_true q181
         go_wp2_with (first | ((with_reducible refine gate_dst (N := 5) rfl ?_); refine box_event ?hg (N := 5) ?hd (cs := #[.int .i64 0, .int .i64 0]) (t := 28) ?hr ?_; (case hd => rfl); (case hg => rfl); (case hr => first | (go_simp; done) | (go_simp; rfl)); intro gb182 hg w11 hbox hb; have n0_ := Aside0.mk (Kd.R_below (Kd.R_elderB (by (with_reducible repeat (first | apply Kd.R_alloc | apply Kd.R_drewN | apply Kd.R_drew)); exact HO_3.out) gb182 (Nat.le_of_eq hg.symm)) hb); have n1_ := Aside0.mk (below_step (by repeat (first | (with_reducible first | exact HB.out | apply below_alloc | apply pw_below_drewN | apply below_drew1) | exact HB.out)) hb); have n2_ := Aside0.mk (hbox); have n3_ := Aside0.mk ((by rw [hg]; exact (below_size (by repeat (first | (with_reducible first | exact HB.out | apply below_alloc | apply pw_below_drewN | apply below_drew1) | exact HB.out))) : w.heap.size ≤ gb182)); have n4_ := Aside0.mk ((by rw [hg]; exact (below_size (by repeat (first | (with_reducible first | exact HB.out | apply below_alloc | apply pw_below_drewN | apply below_drew1) | exact HB.out))) : w.heap.size ≤ gb182)); clear HO_3; clear HB; have HO_3 := n0_; have HB := n1_; have BK182 := n2_; have GW182 := n3_; have GE182 := n4_; clear n0_ n1_ n2_ n3_ n4_; (try clear hb); (try clear hbox); (try clear hg); have hcz12_0 : w11.cell? ⟨gb182, 0, none⟩ = some (.int .i64 0) := (blk_cell BK182.out 0).trans rfl; have hcz12_1 : w11.cell? ⟨gb182, 1, none⟩ = some (.int .i64 0) := (blk_cell BK182.out 1).trans rfl; have hfz12_0 := blk_frozen BK182.out 0; have hfz12_1 := blk_frozen BK182.out 1) | ((with_reducible refine gate_store (t := 28) (p := 5) rfl ?_); refine store_event (t := 28) (p := 5) (v := ?vo_w13) (w1 := ((w11.setCell ⟨gb182, 0, none⟩ (.int .i64 ((rd_T28 l0 x11_1).f0))).setCell ⟨gb182, 1, none⟩ (.int .i64 ((rd_T28 l0 x11_1).f1)))) ?hg ?ho ?hn ?hr ?_; (case ho => rfl); (case hg => rfl); (case hn => rfl); (case hr => first | (go_simp; done) | (go_simp; rfl)); intro w13 hw; have n0_ : Aside0 (Kd.R k28 28 w13 w.heap.size (fun k_ => k_ ≠ gb182) v179 x3_1) := ⟨(by rw [hw]; exact (by (with_reducible repeat (first | apply Kd.R_alloc | apply Kd.R_drewN | apply Kd.R_drew)); exact Kd.R_mono (Kd.R_far (p := ⟨gb182, 1, none⟩) (Kd.R_far (p := ⟨gb182, 0, none⟩) (Kd.R_mono HO_3.out (fun k_ hk => (⟨hk, hk.2⟩ : _ ∧ k_ ≠ gb182))) (fun _ hk => hk.2) (.int .i64 ((rd_T28 l0 x11_1).f0))) (fun _ hk => hk.2) (.int .i64 ((rd_T28 l0 x11_1).f1))) (fun _ hk => hk.1.2)))⟩; have n1_ : Aside0 (w13.heap[gb182]? = some (.cells #[.int .i64 ((rd_T28 l0 x11_1).f0), .int .i64 ((rd_T28 l0 x11_1).f1)] 28 (0, 0))) := ⟨(by rw [hw]; exact (by (with_reducible repeat (first | refine blk_drewN ?_ _ | refine blk_drew ?_ | refine blk_alloc ?_ _)); refine blk_put (cs := #[.int .i64 ((rd_T28 l0 x11_1).f0), .int .i64 0]) ?_ 1 _ rfl; (with_reducible repeat (first | refine blk_drewN ?_ _ | refine blk_drew ?_ | refine blk_alloc ?_ _)); refine blk_put (cs := #[.int .i64 0, .int .i64 0]) ?_ 0 _ rfl; (with_reducible repeat (first | refine blk_drewN ?_ _ | refine blk_drew ?_ | refine blk_alloc ?_ _)); exact BK182.out))⟩; have n2_ : Aside0 (Below w.heap.size w w13) := ⟨(by rw [hw]; exact (by repeat (first | (with_reducible first | exact HB.out | apply below_alloc | apply pw_below_drewN | apply below_drew1 | refine below_set ?_ GE182.out) | exact HB.out)))⟩; clear hw; clear HO_3; clear BK182; clear HB; have HO_3 := n0_; have BK182 := n1_; have HB := n2_; clear n0_ n1_ n2_; have hcz14_0 : w13.cell? ⟨gb182, 0, none⟩ = some (.int .i64 ((rd_T28 l0 x11_1).f0)) := (blk_cell BK182.out 0).trans rfl; have hcz14_1 : w13.cell? ⟨gb182, 1, none⟩ = some (.int .i64 ((rd_T28 l0 x11_1).f1)) := (blk_cell BK182.out 1).trans rfl; have hfz14_0 := blk_frozen BK182.out 0; have hfz14_1 := blk_frozen BK182.out 1; have p10 : 0 ≤ (x11_1 : Int) := of_decide_eq_true (by first | (with_reducible assumption) | assumption); have q10 : (x11_1 : Int) < ((x3_1.length : Int) : Int) := of_decide_eq_true (by first | (with_reducible assumption) | assumption); obtain ⟨go10, co10, eo10, gb10, gl10, cl10, HG10⟩ := Kd.R_form HO_3.out (by omega); (first | cases eo10 | (injection eo10 with ea_ en_ ec_; (first | subst ea_ | (injection ea_ with ea_; subst ea_)); subst ec_; clear en_)); have GB10 := Aside0.mk gb10; have GG10 := Aside0.mk HG10; clear gb10 gl10 HG10; obtain ⟨ce10, hcl10, hM10, hcc10, hfr10⟩ := Kd.R_elem HO_3.out z28 (x11_1 : Int) p10 q10; obtain rfl := k28_openM hM10; have hx10_0 : w13.cell? ⟨go10, (x11_1 : Int).toNat * 2, none⟩ = some (.int .i64 ((rd_T28 x3_1 x11_1).f0)) := hcc10 0 _ rfl; have hx10_1 : w13.cell? ⟨go10, (x11_1 : Int).toNat * 2 + 1, none⟩ = some (.int .i64 ((rd_T28 x3_1 x11_1).f1)) := hcc10 1 _ rfl; have hf10_0 : w13.frozen? ⟨go10, (x11_1 : Int).toNat * 2, none⟩ = false := hfr10 0; have hf10_1 : w13.frozen? ⟨go10, (x11_1 : Int).toNat * 2 + 1, none⟩ = false := hfr10 1; (try clear hcl10); (try clear hcc10); (try clear hfr10); (try clear hM10); replace p10 := eq_true p10; replace q10 := eq_true q10; have HX15 := Aside0.mk (show Kd.R k28 28 w13 w.heap.size (fun k_ => k_ ≠ gb182) (.slice (some ⟨go10, 0, none⟩) x3_1.length co10) x3_1 from (by (with_reducible repeat (first | apply Kd.R_alloc | apply Kd.R_drewN | apply Kd.R_drew)); exact HO_3.out)); obtain ⟨ce15, hcl15, hM15, hcc15, hfr15⟩ := Kd.R_elem HX15.out z28 (x11_1 : Int) (of_decide_eq_true (by first | (with_reducible assumption) | assumption)) (by have h_ : (x11_1 : Int) < ((x3_1.length : Int) : Int) := of_decide_eq_true (by first | (with_reducible assumption) | assumption); first | exact h_ | (have e_ := (Kd.R_reads' HO_3.out).1; omega) | simpa using h_); obtain rfl := k28_openM hM15; have HP15 := Kd.R_seg HX15.out (x11_1 : Int) (of_decide_eq_true (by first | (with_reducible assumption) | assumption)) (by have h_ : (x11_1 : Int) < ((x3_1.length : Int) : Int) := of_decide_eq_true (by first | (with_reducible assumption) | assumption); first | exact h_ | (have e_ := (Kd.R_reads' HO_3.out).1; omega) | simpa using h_) (seg := [.int .i64 ((rd_T28 l0 x11_1).f1), .int .i64 ((rd_T28 l0 x11_1).f0)]) (j := 0) hcl15 hcc15 (show 2 ≤ 2 from by decide) (x' := (⟨(rd_T28 l0 x11_1).f1, (rd_T28 l0 x11_1).f0⟩ : S28)) (k28_mkM _ _ _ (⟨(rd_T28 l0 x11_1).f1, (rd_T28 l0 x11_1).f0⟩ : S28) ) (fun _ hk => hk); have hx15_0 := hcc15 0 _ rfl; (try simp only [show (k28).sz = 2 from rfl, Nat.mul_one, Nat.add_zero] at hx15_0); have hf15_0 := hfr15 0; (try simp only [show (k28).sz = 2 from rfl, Nat.mul_one, Nat.add_zero] at hf15_0); have hx15_1 := hcc15 1 _ rfl; (try simp only [show (k28).sz = 2 from rfl, Nat.mul_one, Nat.add_zero] at hx15_1); have hf15_1 := hfr15 1; (try simp only [show (k28).sz = 2 from rfl, Nat.mul_one, Nat.add_zero] at hf15_1); (try clear hcl15); (try clear hcc15); (try clear hfr15); (try clear hM15)) | ((with_reducible refine gate_store (t := 28) (p := 23) rfl ?_); refine store_event (t := 28) (p := 23) (v := ?vo_w16) (w1 := ((w13.setCell ⟨go10, (x11_1 : Int).toNat * 2, none⟩ (.int .i64 ((rd_T28 l0 x11_1).f1))).setCell ⟨go10, (x11_1 : Int).toNat * 2 + 1, none⟩ (.int .i64 ((rd_T28 l0 x11_1).f0)))) ?hg ?ho ?hn ?hr ?_; (case ho => rfl); (case hg => rfl); (case hn => rfl); (case hr => first | (go_simp; done) | (go_simp; rfl)); intro w16 hw; have hg : w13.grownBy w16 (some go10) := (by rw [hw]; exact HP15.2); have hp_ : Kd.R k28 28 w16 w.heap.size (fun k_ => k_ ≠ gb182) (.slice (some ⟨go10, 0, none⟩) x3_1.length co10) y183 := (by rw [hw, Ny183.out]; exact HP15.1); clear HP15; have n0_ := Aside0.mk (hp_); have n1_ := Aside0.mk (blk_grown (g := gb182) (o := .cells #[.int .i64 ((rd_T28 l0 x11_1).f0), .int .i64 ((rd_T28 l0 x11_1).f1)] 28 (0, 0)) (by (with_reducible repeat (first | refine blk_drewN ?_ _ | refine blk_drew ?_ | refine blk_alloc ?_ _)); exact BK182.out) hg (Kd.R_away HO_3.out (fun _ hk => hk))); have n2_ := Aside0.mk ((by rw [hw]; exact below_set (below_set (HB.out) GB10.out) GB10.out : Below w.heap.size w w16)); clear HO_3; clear BK182; clear HB; have HO_3 := n0_; have BK182 := n1_; have HB := n2_; clear n0_ n1_ n2_; (try clear hg); (try clear hw); (try clear hp_)))
         go_roundg k1
         case measure => have := HK1.out; omega
         case rel => exact ⟨(y183), (wrap64 (x11_1 + 1)), (by first | rfl | (simp; done) | (simp [*]; done)), H', ⟨by have := HK1.out; omega⟩, ⟨by (with_reducible repeat (first | apply Kd.R_alloc | apply Kd.R_drewN | apply Kd.R_drew)); exact Kd.R_mono HO_3.out (fun _ hk => trivial)⟩, ⟨by repeat (first | (with_reducible first | exact HB.out | apply below_alloc | apply pw_below_drewN | apply below_drew1 | refine below_set ?_ GE182.out) | exact HB.out)⟩⟩
        ·rw [if_neg c9] at H
         exact absurd H (by simp)
       ·rw [if_neg c8] at H
        exact absurd H (by simp)
      ·rw [if_neg c7] at H
       exact absurd H (by simp)
     ·rw [if_neg c6] at H
      have c6b0 : decide (x11_1 < (l0.length : Int)) = false := decide_eq_false c6
      clear c6
      obtain rfl := Option.some.inj H
      go_wp2
      go_ret
      exact ⟨_, by first | rfl | (simp [errW_none, errW_some] <;> rfl) | (simp [*, errW_none, errW_some] <;> rfl), by (with_reducible repeat (first | apply Kd.R_alloc | apply Kd.R_drewN | apply Kd.R_drew)); exact HO_3.out, by repeat (first | (with_reducible first | exact HB.out | apply below_alloc | apply pw_below_drewN | apply below_drew1) | exact HB.out)⟩
  ·rw [if_neg c3] at H
   exact absurd H (by simp)
 ·rw [if_neg c2] at H
  exact absurd H (by simp)

/-! ### canon_Top: function 10 -/
def canon_Top.f (k : Nat) (l0 : List Int) (l1 : List Int) (l2 : List (S28)) : Option ((List (S28)) × Int) := (pairs_Turn.f k l2).bind fun t184 => ((canon_Left.f k l1 l0 t184).bind fun bt187 => ((pairs_Turn.f k bt187.1).bind fun t191 => (some (t191, bt187.2))))
theorem canon_Top.mono : ∀ a0 a1 a2 k, LeO (canon_Top.f k a0 a1 a2) (canon_Top.f (k + 1) a0 a1 a2) := by
 intro a0 a1 a2 k
 unfold canon_Top.f
 repeat' first
   | (with_reducible exact canon_Left.mono _ _ _ _)
   | (with_reducible exact pairs_Turn.mono _ _)
   | (with_reducible exact LeO.refl _)
   | (with_reducible exact LeO.none _)
   | (with_reducible refine LeO.ite ?_ ?_)
   | (with_reducible refine LeO.bind ?_ (fun _ => ?_))
   | exact canon_Left.mono _ _ _ _
   | exact pairs_Turn.mono _ _
   | exact LeO.none _
   | refine LeO.ite ?_ ?_
   | refine LeO.bind ?_ (fun _ => ?_)
set_option maxHeartbeats 8000000 in
set_option maxRecDepth 100000 in
theorem canon_Top.calls (k : Nat) (A0 : Option Addr) (c0 : Nat) (l0 : List Int) (A1 : Option Addr) (c1 : Nat) (l1 : List Int) (A2 : Option Addr) (c2 : Nat) (l2 : List (S28)) (r1 : List (S28)) (r2 : Int) (w : World) (hr0 : Kd.C (Kd.int .i64) w A0 l0.length l0) (hc0 : l0.length ≤ c0) (hr1 : Kd.C (Kd.int .i64) w A1 l1.length l1) (hc1 : l1.length ≤ c1) (hr2 : Kd.C k28 w A2 l2.length l2) (hc2 : l2.length ≤ c2) (h : canon_Top.f k l0 l1 l2 = some (r1, r2)) :
  Calls Try.prog 10 #[.slice A0 l0.length c0, .slice A1 l1.length c1, .slice A2 l2.length c2] w fun e w' => ∃ v0_ : Value, e = .returned (.tuple #[v0_, .int .i64 r2]) ∧ Kd.R k28 28 w' w.heap.size (fun _ => True) v0_ r1 ∧ Below w.heap.size w w' := by
 have HR0 := Aside0.mk hr0
 have HC0 := Aside0.mk hc0
 clear hr0 hc0
 have HR1 := Aside0.mk hr1
 have HC1 := Aside0.mk hc1
 clear hr1 hc1
 have HR2 := Aside0.mk hr2
 have HC2 := Aside0.mk hc2
 clear hr2 hc2
 have HB := Aside0.mk (Below.refl w.heap.size w)
 have H : ((pairs_Turn.f k l2).bind fun t184 => ((canon_Left.f k l1 l0 t184).bind fun bt187 => ((pairs_Turn.f k bt187.1).bind fun t191 => (some (t191, bt187.2))))) = some (r1, r2) := h
 clear h
 replace H := Option.bind_eq_some_iff.mp H
 obtain ⟨t184, A40, H⟩ := H
 replace H : ((canon_Left.f k l1 l0 t184).bind fun bt187 => ((pairs_Turn.f k bt187.1).bind fun t191 => (some (t191, bt187.2)))) = some (r1, r2) := H
 have A4 := Aside0.mk A40
 clear A40
 replace H := Option.bind_eq_some_iff.mp H
 obtain ⟨⟨t187, t188⟩, A50, H⟩ := H
 replace H : ((pairs_Turn.f k t187).bind fun t191 => (some (t191, t188))) = some (r1, r2) := H
 have A5 := Aside0.mk A50
 clear A50
 replace H := Option.bind_eq_some_iff.mp H
 obtain ⟨t191, A60, H⟩ := H
 replace H : (some (t191, t188)) = some (r1, r2) := H
 have A6 := Aside0.mk A60
 clear A60
 simp only [Option.some.injEq, Prod.mk.injEq] at H
 obtain ⟨rfl, rfl⟩ := H
 go_enter Try.func10, Try.ntmps10
 go_wp2_with (first | ((first | (with_reducible refine gate_callee (f := 27) rfl ?_); refine goesL_ (some 14) rfl rfl Try.func27 (by kernel_rfl) rfl #[.slice A2 l2.length c2] rfl (by (try simp only [List.map_toArray, List.map_cons, List.map_nil]); first | done | rfl | (simp only [List.length_drop, List.length_take]; rfl)) ?_ | go_at_call 27); (with_reducible refine (pairs_Turn.calls k _ _ l2 t184 _ ?side1 ?side2 A4.out).mono ?_); (case side1 => repeat (first | exact HR2.out | (with_reducible refine Kd.C_alloc ?_ _) | (with_reducible refine Kd.C_drewN ?_ _) | (with_reducible refine Kd.C_drew ?_))); (case side2 => exact HC2.out); rintro e w7 ⟨v185, rfl, ho0, hb⟩; (try refine ⟨_, rfl, ?_⟩); have n0_ := Aside0.mk (Kd.R_lower ho0 (below_size (by repeat (first | (with_reducible first | exact HB.out | apply below_alloc | apply pw_below_drewN | apply below_drew1) | exact HB.out)))); have n1_ := Aside0.mk (below_step (by repeat (first | (with_reducible first | exact HB.out | apply below_alloc | apply pw_below_drewN | apply below_drew1) | exact HB.out)) hb); clear HB; have HO186 := n0_; have HB := n1_; clear n0_ n1_; (try clear hb); (try clear hb2); (try clear hk); (try clear hi); (try clear ho0); obtain ⟨Ao8, co8, eo8⟩ := Kd.R_slice HO186.out; subst eo8) | ((first | (with_reducible refine gate_callee (f := 9) rfl ?_); refine goesL_ (some 15) rfl rfl Try.func9 (by kernel_rfl) rfl #[.slice A1 l1.length c1, .slice A0 l0.length c0, .slice Ao8 t184.length co8] rfl (by (try simp only [List.map_toArray, List.map_cons, List.map_nil]); first | done | rfl | (simp only [List.length_drop, List.length_take]; rfl)) ?_ | go_at_call 9); (with_reducible refine (canon_Left.calls k _ _ l1 _ _ l0 _ _ t184 t187 t188 _ ?side1 ?side2 ?side3 ?side4 ?side5 ?side6 A5.out).mono ?_); (case side1 => repeat (first | exact (Kd.C_below HR1.out HB.out) | (with_reducible refine Kd.C_alloc ?_ _) | (with_reducible refine Kd.C_drewN ?_ _) | (with_reducible refine Kd.C_drew ?_))); (case side2 => exact HC1.out); (case side3 => repeat (first | exact (Kd.C_below HR0.out HB.out) | (with_reducible refine Kd.C_alloc ?_ _) | (with_reducible refine Kd.C_drewN ?_ _) | (with_reducible refine Kd.C_drew ?_))); (case side4 => exact HC0.out); (case side5 => repeat (first | exact (Kd.R_reads' HO186.out).2.2 | (with_reducible refine Kd.C_alloc ?_ _) | (with_reducible refine Kd.C_drewN ?_ _) | (with_reducible refine Kd.C_drew ?_))); (case side6 => exact (Kd.R_reads' HO186.out).2.1); rintro e w9 ⟨v189, rfl, ho0, hb⟩; (try refine ⟨_, rfl, ?_⟩); have n0_ := Aside0.mk (Kd.R_elder' (by (with_reducible repeat (first | apply Kd.R_alloc | apply Kd.R_drewN | apply Kd.R_drew)); exact HO186.out) (Kd.R_base ho0) hb); have n1_ := Aside0.mk (Kd.R_lower (Kd.R_new' ho0 (Kd.R_lt (by (with_reducible repeat (first | apply Kd.R_alloc | apply Kd.R_drewN | apply Kd.R_drew)); exact HO186.out))) (below_size (by repeat (first | (with_reducible first | exact HB.out | apply below_alloc | apply pw_below_drewN | apply below_drew1) | exact HB.out)))); have n2_ := Aside0.mk (below_step (by repeat (first | (with_reducible first | exact HB.out | apply below_alloc | apply pw_below_drewN | apply below_drew1) | exact HB.out)) hb); clear HO186; clear HB; have HO186 := n0_; have HO190 := n1_; have HB := n2_; clear n0_ n1_ n2_; (try clear hb); (try clear hb2); (try clear hk); (try clear hi); (try clear ho0); obtain ⟨Ao10, co10, eo10⟩ := Kd.R_slice HO190.out; subst eo10) | ((first | (with_reducible refine gate_callee (f := 27) rfl ?_); refine goesL_ (some 19) rfl rfl Try.func27 (by kernel_rfl) rfl #[.slice Ao10 t187.length co10] rfl (by (try simp only [List.map_toArray, List.map_cons, List.map_nil]); first | done | rfl | (simp only [List.length_drop, List.length_take]; rfl)) ?_ | go_at_call 27); (with_reducible refine (pairs_Turn.calls k _ _ t187 t191 _ ?side1 ?side2 A6.out).mono ?_); (case side1 => repeat (first | exact (Kd.R_reads' HO190.out).2.2 | (with_reducible refine Kd.C_alloc ?_ _) | (with_reducible refine Kd.C_drewN ?_ _) | (with_reducible refine Kd.C_drew ?_))); (case side2 => exact (Kd.R_reads' HO190.out).2.1); rintro e w11 ⟨v192, rfl, ho0, hb⟩; (try refine ⟨_, rfl, ?_⟩); have n0_ := Aside0.mk (Kd.R_elder' (by (with_reducible repeat (first | apply Kd.R_alloc | apply Kd.R_drewN | apply Kd.R_drew)); exact HO186.out) (Kd.R_base ho0) hb); have n1_ := Aside0.mk (Kd.R_elder' (by (with_reducible repeat (first | apply Kd.R_alloc | apply Kd.R_drewN | apply Kd.R_drew)); exact HO190.out) (Kd.R_base ho0) hb); have n2_ := Aside0.mk (Kd.R_lower (Kd.R_new' (Kd.R_new' ho0 (Kd.R_lt (by (with_reducible repeat (first | apply Kd.R_alloc | apply Kd.R_drewN | apply Kd.R_drew)); exact HO186.out))) (Kd.R_lt (by (with_reducible repeat (first | apply Kd.R_alloc | apply Kd.R_drewN | apply Kd.R_drew)); exact HO190.out))) (below_size (by repeat (first | (with_reducible first | exact HB.out | apply below_alloc | apply pw_below_drewN | apply below_drew1) | exact HB.out)))); have n3_ := Aside0.mk (below_step (by repeat (first | (with_reducible first | exact HB.out | apply below_alloc | apply pw_below_drewN | apply below_drew1) | exact HB.out)) hb); clear HO186; clear HO190; clear HB; have HO186 := n0_; have HO190 := n1_; have HO193 := n2_; have HB := n3_; clear n0_ n1_ n2_ n3_; (try clear hb); (try clear hb2); (try clear hk); (try clear hi); (try clear ho0)))
 go_ret2
 exact ⟨_, by first | rfl | (simp [errW_none, errW_some] <;> rfl) | (simp [*, errW_none, errW_some] <;> rfl), by (with_reducible repeat (first | apply Kd.R_alloc | apply Kd.R_drewN | apply Kd.R_drew)); exact Kd.R_mono HO193.out (fun _ hk => trivial), by repeat (first | (with_reducible first | exact HB.out | apply below_alloc | apply pw_below_drewN | apply below_drew1) | exact HB.out)⟩

/-! ### tattinglaw23_awake: function 11 -/
def tattinglaw23_awake.f (k : Nat)  : Option (Bool) := (canon_Left.f k (([1] : List Int)) (([1, 1] : List Int)) (([(⟨0, 1⟩ : S28)] : List (S28)))).bind fun bt203 => ((canon_Top.f k (([1, 1] : List Int)) (([1] : List Int)) (([(⟨1, 0⟩ : S28)] : List (S28)))).bind fun bt216 => ((canon_Of.f k (([1, 2] : List Int)) (([2, 1] : List Int)) (([(⟨1, 0⟩ : S28)] : List (S28)))).bind fun bt229 => (if bt203.2 = 0 then (if (bt203.1.length : Int) = 1 then (if 0 < (bt203.1.length : Int) then (if (((rd_T28 bt203.1 0).f0) == 0 && (((rd_T28 bt203.1 0).f1) == 0)) = true then (if bt216.2 = 0 then (if (bt216.1.length : Int) = 1 then (if 0 < (bt216.1.length : Int) then (if (((rd_T28 bt216.1 0).f0) == 0 && (((rd_T28 bt216.1 0).f1) == 0)) = true then (if bt229.2 = 0 then (if (bt229.1.length : Int) = 1 then (if 0 < (bt229.1.length : Int) then (some (((rd_T28 bt229.1 0).f0) == 0 && (((rd_T28 bt229.1 0).f1) == 1))) else (none)) else (some false)) else (some false)) else (some false)) else (none)) else (some false)) else (some false)) else (some false)) else (none)) else (some false)) else (some false))))
theorem tattinglaw23_awake.mono : ∀ k, LeO (tattinglaw23_awake.f k ) (tattinglaw23_awake.f (k + 1) ) := by
 intro  k
 unfold tattinglaw23_awake.f
 repeat' first
   | (with_reducible exact canon_Left.mono _ _ _ _)
   | (with_reducible exact canon_Of.mono _ _ _ _)
   | (with_reducible exact canon_Top.mono _ _ _ _)
   | (with_reducible exact LeO.refl _)
   | (with_reducible exact LeO.none _)
   | (with_reducible refine LeO.ite ?_ ?_)
   | (with_reducible refine LeO.bind ?_ (fun _ => ?_))
   | exact canon_Left.mono _ _ _ _
   | exact canon_Of.mono _ _ _ _
   | exact canon_Top.mono _ _ _ _
   | exact LeO.none _
   | refine LeO.ite ?_ ?_
   | refine LeO.bind ?_ (fun _ => ?_)
set_option maxHeartbeats 8000000 in
set_option maxRecDepth 100000 in
theorem tattinglaw23_awake.calls (k : Nat)  (r : Bool) (w : World) (h : tattinglaw23_awake.f k  = some r) (hr_ : r = true) :
  Calls Try.prog 11 #[] w fun e w' => e = .returned (.bool r) ∧ Below w.heap.size w w' := by
 have hu28 := Try.underlying28
 have HB := Aside0.mk (Below.refl w.heap.size w)
 have H : ((canon_Left.f k (([1] : List Int)) (([1, 1] : List Int)) (([(⟨0, 1⟩ : S28)] : List (S28)))).bind fun bt203 => ((canon_Top.f k (([1, 1] : List Int)) (([1] : List Int)) (([(⟨1, 0⟩ : S28)] : List (S28)))).bind fun bt216 => ((canon_Of.f k (([1, 2] : List Int)) (([2, 1] : List Int)) (([(⟨1, 0⟩ : S28)] : List (S28)))).bind fun bt229 => (if bt203.2 = 0 then (if (bt203.1.length : Int) = 1 then (if 0 < (bt203.1.length : Int) then (if (((rd_T28 bt203.1 0).f0) == 0 && (((rd_T28 bt203.1 0).f1) == 0)) = true then (if bt216.2 = 0 then (if (bt216.1.length : Int) = 1 then (if 0 < (bt216.1.length : Int) then (if (((rd_T28 bt216.1 0).f0) == 0 && (((rd_T28 bt216.1 0).f1) == 0)) = true then (if bt229.2 = 0 then (if (bt229.1.length : Int) = 1 then (if 0 < (bt229.1.length : Int) then (some (((rd_T28 bt229.1 0).f0) == 0 && (((rd_T28 bt229.1 0).f1) == 1))) else (none)) else (some false)) else (some false)) else (some false)) else (none)) else (some false)) else (some false)) else (some false)) else (none)) else (some false)) else (some false))))) = some r := h
 clear h
 obtain ⟨y194, hy194⟩ : ∃ y_ : List Int, y_ = (([1] : List Int)) := ⟨_, rfl⟩
 replace H : ((canon_Left.f k y194 (([1, 1] : List Int)) (([(⟨0, 1⟩ : S28)] : List (S28)))).bind fun bt203 => ((canon_Top.f k (([1, 1] : List Int)) (([1] : List Int)) (([(⟨1, 0⟩ : S28)] : List (S28)))).bind fun bt216 => ((canon_Of.f k (([1, 2] : List Int)) (([2, 1] : List Int)) (([(⟨1, 0⟩ : S28)] : List (S28)))).bind fun bt229 => (if bt203.2 = 0 then (if (bt203.1.length : Int) = 1 then (if 0 < (bt203.1.length : Int) then (if (((rd_T28 bt203.1 0).f0) == 0 && (((rd_T28 bt203.1 0).f1) == 0)) = true then (if bt216.2 = 0 then (if (bt216.1.length : Int) = 1 then (if 0 < (bt216.1.length : Int) then (if (((rd_T28 bt216.1 0).f0) == 0 && (((rd_T28 bt216.1 0).f1) == 0)) = true then (if bt229.2 = 0 then (if (bt229.1.length : Int) = 1 then (if 0 < (bt229.1.length : Int) then (some (((rd_T28 bt229.1 0).f0) == 0 && (((rd_T28 bt229.1 0).f1) == 1))) else (none)) else (some false)) else (some false)) else (some false)) else (none)) else (some false)) else (some false)) else (some false)) else (none)) else (some false)) else (some false))))) = some r := by first | (rw [hy194]; with_reducible exact H) | (have H2_ := (Option.bind_some _ _).symm.trans H; rw [hy194]; with_reducible exact H2_) | (have H2_ := (Option.bind_some _ _).symm.trans H; with_reducible exact H2_) | with_reducible exact H | (rw [hy194]; exact H) | exact H
 have Ny194 := Aside0.mk hy194
 clear hy194
 obtain ⟨y197, hy197⟩ : ∃ y_ : List Int, y_ = (([1, 1] : List Int)) := ⟨_, rfl⟩
 replace H : ((canon_Left.f k y194 y197 (([(⟨0, 1⟩ : S28)] : List (S28)))).bind fun bt203 => ((canon_Top.f k (([1, 1] : List Int)) (([1] : List Int)) (([(⟨1, 0⟩ : S28)] : List (S28)))).bind fun bt216 => ((canon_Of.f k (([1, 2] : List Int)) (([2, 1] : List Int)) (([(⟨1, 0⟩ : S28)] : List (S28)))).bind fun bt229 => (if bt203.2 = 0 then (if (bt203.1.length : Int) = 1 then (if 0 < (bt203.1.length : Int) then (if (((rd_T28 bt203.1 0).f0) == 0 && (((rd_T28 bt203.1 0).f1) == 0)) = true then (if bt216.2 = 0 then (if (bt216.1.length : Int) = 1 then (if 0 < (bt216.1.length : Int) then (if (((rd_T28 bt216.1 0).f0) == 0 && (((rd_T28 bt216.1 0).f1) == 0)) = true then (if bt229.2 = 0 then (if (bt229.1.length : Int) = 1 then (if 0 < (bt229.1.length : Int) then (some (((rd_T28 bt229.1 0).f0) == 0 && (((rd_T28 bt229.1 0).f1) == 1))) else (none)) else (some false)) else (some false)) else (some false)) else (none)) else (some false)) else (some false)) else (some false)) else (none)) else (some false)) else (some false))))) = some r := by first | (rw [hy197]; with_reducible exact H) | (have H2_ := (Option.bind_some _ _).symm.trans H; rw [hy197]; with_reducible exact H2_) | (have H2_ := (Option.bind_some _ _).symm.trans H; with_reducible exact H2_) | with_reducible exact H | (rw [hy197]; exact H) | exact H
 have Ny197 := Aside0.mk hy197
 clear hy197
 obtain ⟨y200, hy200⟩ : ∃ y_ : List (S28), y_ = (([(⟨0, 1⟩ : S28)] : List (S28))) := ⟨_, rfl⟩
 replace H : ((canon_Left.f k y194 y197 y200).bind fun bt203 => ((canon_Top.f k (([1, 1] : List Int)) (([1] : List Int)) (([(⟨1, 0⟩ : S28)] : List (S28)))).bind fun bt216 => ((canon_Of.f k (([1, 2] : List Int)) (([2, 1] : List Int)) (([(⟨1, 0⟩ : S28)] : List (S28)))).bind fun bt229 => (if bt203.2 = 0 then (if (bt203.1.length : Int) = 1 then (if 0 < (bt203.1.length : Int) then (if (((rd_T28 bt203.1 0).f0) == 0 && (((rd_T28 bt203.1 0).f1) == 0)) = true then (if bt216.2 = 0 then (if (bt216.1.length : Int) = 1 then (if 0 < (bt216.1.length : Int) then (if (((rd_T28 bt216.1 0).f0) == 0 && (((rd_T28 bt216.1 0).f1) == 0)) = true then (if bt229.2 = 0 then (if (bt229.1.length : Int) = 1 then (if 0 < (bt229.1.length : Int) then (some (((rd_T28 bt229.1 0).f0) == 0 && (((rd_T28 bt229.1 0).f1) == 1))) else (none)) else (some false)) else (some false)) else (some false)) else (none)) else (some false)) else (some false)) else (some false)) else (none)) else (some false)) else (some false))))) = some r := by first | (rw [hy200]; with_reducible exact H) | (have H2_ := (Option.bind_some _ _).symm.trans H; rw [hy200]; with_reducible exact H2_) | (have H2_ := (Option.bind_some _ _).symm.trans H; with_reducible exact H2_) | with_reducible exact H | (rw [hy200]; exact H) | exact H
 have Ny200 := Aside0.mk hy200
 clear hy200
 replace H := Option.bind_eq_some_iff.mp H
 obtain ⟨⟨t203, t204⟩, A10, H⟩ := H
 replace H : ((canon_Top.f k (([1, 1] : List Int)) (([1] : List Int)) (([(⟨1, 0⟩ : S28)] : List (S28)))).bind fun bt216 => ((canon_Of.f k (([1, 2] : List Int)) (([2, 1] : List Int)) (([(⟨1, 0⟩ : S28)] : List (S28)))).bind fun bt229 => (if t204 = 0 then (if (t203.length : Int) = 1 then (if 0 < (t203.length : Int) then (if (((rd_T28 t203 0).f0) == 0 && (((rd_T28 t203 0).f1) == 0)) = true then (if bt216.2 = 0 then (if (bt216.1.length : Int) = 1 then (if 0 < (bt216.1.length : Int) then (if (((rd_T28 bt216.1 0).f0) == 0 && (((rd_T28 bt216.1 0).f1) == 0)) = true then (if bt229.2 = 0 then (if (bt229.1.length : Int) = 1 then (if 0 < (bt229.1.length : Int) then (some (((rd_T28 bt229.1 0).f0) == 0 && (((rd_T28 bt229.1 0).f1) == 1))) else (none)) else (some false)) else (some false)) else (some false)) else (none)) else (some false)) else (some false)) else (some false)) else (none)) else (some false)) else (some false)))) = some r := H
 have A1 := Aside0.mk A10
 clear A10
 obtain ⟨y207, hy207⟩ : ∃ y_ : List Int, y_ = (([1, 1] : List Int)) := ⟨_, rfl⟩
 replace H : ((canon_Top.f k y207 (([1] : List Int)) (([(⟨1, 0⟩ : S28)] : List (S28)))).bind fun bt216 => ((canon_Of.f k (([1, 2] : List Int)) (([2, 1] : List Int)) (([(⟨1, 0⟩ : S28)] : List (S28)))).bind fun bt229 => (if t204 = 0 then (if (t203.length : Int) = 1 then (if 0 < (t203.length : Int) then (if (((rd_T28 t203 0).f0) == 0 && (((rd_T28 t203 0).f1) == 0)) = true then (if bt216.2 = 0 then (if (bt216.1.length : Int) = 1 then (if 0 < (bt216.1.length : Int) then (if (((rd_T28 bt216.1 0).f0) == 0 && (((rd_T28 bt216.1 0).f1) == 0)) = true then (if bt229.2 = 0 then (if (bt229.1.length : Int) = 1 then (if 0 < (bt229.1.length : Int) then (some (((rd_T28 bt229.1 0).f0) == 0 && (((rd_T28 bt229.1 0).f1) == 1))) else (none)) else (some false)) else (some false)) else (some false)) else (none)) else (some false)) else (some false)) else (some false)) else (none)) else (some false)) else (some false)))) = some r := by first | (rw [hy207]; with_reducible exact H) | (have H2_ := (Option.bind_some _ _).symm.trans H; rw [hy207]; with_reducible exact H2_) | (have H2_ := (Option.bind_some _ _).symm.trans H; with_reducible exact H2_) | with_reducible exact H | (rw [hy207]; exact H) | exact H
 have Ny207 := Aside0.mk hy207
 clear hy207
 obtain ⟨y210, hy210⟩ : ∃ y_ : List Int, y_ = (([1] : List Int)) := ⟨_, rfl⟩
 replace H : ((canon_Top.f k y207 y210 (([(⟨1, 0⟩ : S28)] : List (S28)))).bind fun bt216 => ((canon_Of.f k (([1, 2] : List Int)) (([2, 1] : List Int)) (([(⟨1, 0⟩ : S28)] : List (S28)))).bind fun bt229 => (if t204 = 0 then (if (t203.length : Int) = 1 then (if 0 < (t203.length : Int) then (if (((rd_T28 t203 0).f0) == 0 && (((rd_T28 t203 0).f1) == 0)) = true then (if bt216.2 = 0 then (if (bt216.1.length : Int) = 1 then (if 0 < (bt216.1.length : Int) then (if (((rd_T28 bt216.1 0).f0) == 0 && (((rd_T28 bt216.1 0).f1) == 0)) = true then (if bt229.2 = 0 then (if (bt229.1.length : Int) = 1 then (if 0 < (bt229.1.length : Int) then (some (((rd_T28 bt229.1 0).f0) == 0 && (((rd_T28 bt229.1 0).f1) == 1))) else (none)) else (some false)) else (some false)) else (some false)) else (none)) else (some false)) else (some false)) else (some false)) else (none)) else (some false)) else (some false)))) = some r := by first | (rw [hy210]; with_reducible exact H) | (have H2_ := (Option.bind_some _ _).symm.trans H; rw [hy210]; with_reducible exact H2_) | (have H2_ := (Option.bind_some _ _).symm.trans H; with_reducible exact H2_) | with_reducible exact H | (rw [hy210]; exact H) | exact H
 have Ny210 := Aside0.mk hy210
 clear hy210
 obtain ⟨y213, hy213⟩ : ∃ y_ : List (S28), y_ = (([(⟨1, 0⟩ : S28)] : List (S28))) := ⟨_, rfl⟩
 replace H : ((canon_Top.f k y207 y210 y213).bind fun bt216 => ((canon_Of.f k (([1, 2] : List Int)) (([2, 1] : List Int)) (([(⟨1, 0⟩ : S28)] : List (S28)))).bind fun bt229 => (if t204 = 0 then (if (t203.length : Int) = 1 then (if 0 < (t203.length : Int) then (if (((rd_T28 t203 0).f0) == 0 && (((rd_T28 t203 0).f1) == 0)) = true then (if bt216.2 = 0 then (if (bt216.1.length : Int) = 1 then (if 0 < (bt216.1.length : Int) then (if (((rd_T28 bt216.1 0).f0) == 0 && (((rd_T28 bt216.1 0).f1) == 0)) = true then (if bt229.2 = 0 then (if (bt229.1.length : Int) = 1 then (if 0 < (bt229.1.length : Int) then (some (((rd_T28 bt229.1 0).f0) == 0 && (((rd_T28 bt229.1 0).f1) == 1))) else (none)) else (some false)) else (some false)) else (some false)) else (none)) else (some false)) else (some false)) else (some false)) else (none)) else (some false)) else (some false)))) = some r := by first | (rw [hy213]; with_reducible exact H) | (have H2_ := (Option.bind_some _ _).symm.trans H; rw [hy213]; with_reducible exact H2_) | (have H2_ := (Option.bind_some _ _).symm.trans H; with_reducible exact H2_) | with_reducible exact H | (rw [hy213]; exact H) | exact H
 have Ny213 := Aside0.mk hy213
 clear hy213
 replace H := Option.bind_eq_some_iff.mp H
 obtain ⟨⟨t216, t217⟩, A20, H⟩ := H
 replace H : ((canon_Of.f k (([1, 2] : List Int)) (([2, 1] : List Int)) (([(⟨1, 0⟩ : S28)] : List (S28)))).bind fun bt229 => (if t204 = 0 then (if (t203.length : Int) = 1 then (if 0 < (t203.length : Int) then (if (((rd_T28 t203 0).f0) == 0 && (((rd_T28 t203 0).f1) == 0)) = true then (if t217 = 0 then (if (t216.length : Int) = 1 then (if 0 < (t216.length : Int) then (if (((rd_T28 t216 0).f0) == 0 && (((rd_T28 t216 0).f1) == 0)) = true then (if bt229.2 = 0 then (if (bt229.1.length : Int) = 1 then (if 0 < (bt229.1.length : Int) then (some (((rd_T28 bt229.1 0).f0) == 0 && (((rd_T28 bt229.1 0).f1) == 1))) else (none)) else (some false)) else (some false)) else (some false)) else (none)) else (some false)) else (some false)) else (some false)) else (none)) else (some false)) else (some false))) = some r := H
 have A2 := Aside0.mk A20
 clear A20
 obtain ⟨y220, hy220⟩ : ∃ y_ : List Int, y_ = (([1, 2] : List Int)) := ⟨_, rfl⟩
 replace H : ((canon_Of.f k y220 (([2, 1] : List Int)) (([(⟨1, 0⟩ : S28)] : List (S28)))).bind fun bt229 => (if t204 = 0 then (if (t203.length : Int) = 1 then (if 0 < (t203.length : Int) then (if (((rd_T28 t203 0).f0) == 0 && (((rd_T28 t203 0).f1) == 0)) = true then (if t217 = 0 then (if (t216.length : Int) = 1 then (if 0 < (t216.length : Int) then (if (((rd_T28 t216 0).f0) == 0 && (((rd_T28 t216 0).f1) == 0)) = true then (if bt229.2 = 0 then (if (bt229.1.length : Int) = 1 then (if 0 < (bt229.1.length : Int) then (some (((rd_T28 bt229.1 0).f0) == 0 && (((rd_T28 bt229.1 0).f1) == 1))) else (none)) else (some false)) else (some false)) else (some false)) else (none)) else (some false)) else (some false)) else (some false)) else (none)) else (some false)) else (some false))) = some r := by first | (rw [hy220]; with_reducible exact H) | (have H2_ := (Option.bind_some _ _).symm.trans H; rw [hy220]; with_reducible exact H2_) | (have H2_ := (Option.bind_some _ _).symm.trans H; with_reducible exact H2_) | with_reducible exact H | (rw [hy220]; exact H) | exact H
 have Ny220 := Aside0.mk hy220
 clear hy220
 obtain ⟨y223, hy223⟩ : ∃ y_ : List Int, y_ = (([2, 1] : List Int)) := ⟨_, rfl⟩
 replace H : ((canon_Of.f k y220 y223 (([(⟨1, 0⟩ : S28)] : List (S28)))).bind fun bt229 => (if t204 = 0 then (if (t203.length : Int) = 1 then (if 0 < (t203.length : Int) then (if (((rd_T28 t203 0).f0) == 0 && (((rd_T28 t203 0).f1) == 0)) = true then (if t217 = 0 then (if (t216.length : Int) = 1 then (if 0 < (t216.length : Int) then (if (((rd_T28 t216 0).f0) == 0 && (((rd_T28 t216 0).f1) == 0)) = true then (if bt229.2 = 0 then (if (bt229.1.length : Int) = 1 then (if 0 < (bt229.1.length : Int) then (some (((rd_T28 bt229.1 0).f0) == 0 && (((rd_T28 bt229.1 0).f1) == 1))) else (none)) else (some false)) else (some false)) else (some false)) else (none)) else (some false)) else (some false)) else (some false)) else (none)) else (some false)) else (some false))) = some r := by first | (rw [hy223]; with_reducible exact H) | (have H2_ := (Option.bind_some _ _).symm.trans H; rw [hy223]; with_reducible exact H2_) | (have H2_ := (Option.bind_some _ _).symm.trans H; with_reducible exact H2_) | with_reducible exact H | (rw [hy223]; exact H) | exact H
 have Ny223 := Aside0.mk hy223
 clear hy223
 obtain ⟨y226, hy226⟩ : ∃ y_ : List (S28), y_ = (([(⟨1, 0⟩ : S28)] : List (S28))) := ⟨_, rfl⟩
 replace H : ((canon_Of.f k y220 y223 y226).bind fun bt229 => (if t204 = 0 then (if (t203.length : Int) = 1 then (if 0 < (t203.length : Int) then (if (((rd_T28 t203 0).f0) == 0 && (((rd_T28 t203 0).f1) == 0)) = true then (if t217 = 0 then (if (t216.length : Int) = 1 then (if 0 < (t216.length : Int) then (if (((rd_T28 t216 0).f0) == 0 && (((rd_T28 t216 0).f1) == 0)) = true then (if bt229.2 = 0 then (if (bt229.1.length : Int) = 1 then (if 0 < (bt229.1.length : Int) then (some (((rd_T28 bt229.1 0).f0) == 0 && (((rd_T28 bt229.1 0).f1) == 1))) else (none)) else (some false)) else (some false)) else (some false)) else (none)) else (some false)) else (some false)) else (some false)) else (none)) else (some false)) else (some false))) = some r := by first | (rw [hy226]; with_reducible exact H) | (have H2_ := (Option.bind_some _ _).symm.trans H; rw [hy226]; with_reducible exact H2_) | (have H2_ := (Option.bind_some _ _).symm.trans H; with_reducible exact H2_) | with_reducible exact H | (rw [hy226]; exact H) | exact H
 have Ny226 := Aside0.mk hy226
 clear hy226
 replace H := Option.bind_eq_some_iff.mp H
 obtain ⟨⟨t229, t230⟩, A30, H⟩ := H
 replace H : (if t204 = 0 then (if (t203.length : Int) = 1 then (if 0 < (t203.length : Int) then (if (((rd_T28 t203 0).f0) == 0 && (((rd_T28 t203 0).f1) == 0)) = true then (if t217 = 0 then (if (t216.length : Int) = 1 then (if 0 < (t216.length : Int) then (if (((rd_T28 t216 0).f0) == 0 && (((rd_T28 t216 0).f1) == 0)) = true then (if t230 = 0 then (if (t229.length : Int) = 1 then (if 0 < (t229.length : Int) then (some (((rd_T28 t229 0).f0) == 0 && (((rd_T28 t229 0).f1) == 1))) else (none)) else (some false)) else (some false)) else (some false)) else (none)) else (some false)) else (some false)) else (some false)) else (none)) else (some false)) else (some false)) = some r := H
 have A3 := Aside0.mk A30
 clear A30
 by_cases c4 : t204 = 0
 ·rw [if_pos c4] at H
  have c4b0 : (t204 == 0) = true := beq_iff_eq.mpr c4
  have c4b1 : (t204 != 0) = false := bne_eq_false_iff_eq.mpr c4
  clear c4
  by_cases c5 : (t203.length : Int) = 1
  ·rw [if_pos c5] at H
   have c5b0 : ((t203.length : Int) == 1) = true := beq_iff_eq.mpr c5
   have c5b1 : ((t203.length : Int) != 1) = false := bne_eq_false_iff_eq.mpr c5
   clear c5
   by_cases c6 : 0 < (t203.length : Int)
   ·rw [if_pos c6] at H
    have c6b0 : decide (0 < (t203.length : Int)) = true := decide_eq_true c6
    have c6b1 : decide (0 < t203.length) = true := decide_eq_true (by omega)
    clear c6
    by_cases c7 : (((rd_T28 t203 0).f0) == 0 && (((rd_T28 t203 0).f1) == 0)) = true
    ·rw [if_pos c7] at H
     have c7b0 : (((rd_T28 t203 0).f0) == 0 && (((rd_T28 t203 0).f1) == 0)) = true := c7
     (try (have c7b1 : decide (((rd_T28 t203 0).f0) = 0 && (((rd_T28 t203 0).f1) == 0)) = true := by simpa using c7))
     (try (have c7b2 : (((rd_T28 t203 0).f0) == 0 && (((rd_T28 t203 0).f1) == 0)) = true := by simpa using c7))
     clear c7
     by_cases c8 : t217 = 0
     ·rw [if_pos c8] at H
      have c8b0 : (t217 == 0) = true := beq_iff_eq.mpr c8
      have c8b1 : (t217 != 0) = false := bne_eq_false_iff_eq.mpr c8
      clear c8
      by_cases c9 : (t216.length : Int) = 1
      ·rw [if_pos c9] at H
       have c9b0 : ((t216.length : Int) == 1) = true := beq_iff_eq.mpr c9
       have c9b1 : ((t216.length : Int) != 1) = false := bne_eq_false_iff_eq.mpr c9
       clear c9
       by_cases c10 : 0 < (t216.length : Int)
       ·rw [if_pos c10] at H
        have c10b0 : decide (0 < (t216.length : Int)) = true := decide_eq_true c10
        have c10b1 : decide (0 < t216.length) = true := decide_eq_true (by omega)
        clear c10
        by_cases c11 : (((rd_T28 t216 0).f0) == 0 && (((rd_T28 t216 0).f1) == 0)) = true
        ·rw [if_pos c11] at H
         have c11b0 : (((rd_T28 t216 0).f0) == 0 && (((rd_T28 t216 0).f1) == 0)) = true := c11
         (try (have c11b1 : decide (((rd_T28 t216 0).f0) = 0 && (((rd_T28 t216 0).f1) == 0)) = true := by simpa using c11))
         (try (have c11b2 : (((rd_T28 t216 0).f0) == 0 && (((rd_T28 t216 0).f1) == 0)) = true := by simpa using c11))
         clear c11
         by_cases c12 : t230 = 0
         ·rw [if_pos c12] at H
          have c12b0 : (t230 == 0) = true := beq_iff_eq.mpr c12
          have c12b1 : (t230 != 0) = false := bne_eq_false_iff_eq.mpr c12
          clear c12
          by_cases c13 : (t229.length : Int) = 1
          ·rw [if_pos c13] at H
           have c13b0 : ((t229.length : Int) == 1) = true := beq_iff_eq.mpr c13
           have c13b1 : ((t229.length : Int) != 1) = false := bne_eq_false_iff_eq.mpr c13
           clear c13
           by_cases c14 : 0 < (t229.length : Int)
           ·rw [if_pos c14] at H
            have c14b0 : decide (0 < (t229.length : Int)) = true := decide_eq_true c14
            have c14b1 : decide (0 < t229.length) = true := decide_eq_true (by omega)
            clear c14
            obtain rfl := Option.some.inj H
            go_enter Try.func11, Try.ntmps11
            try dsimp only [List.append]
            go_wp2_with (first | ((with_reducible refine gate_dst (N := 8) rfl ?_); (try (refine gate_guard (by rfl) ?_; dsimp only)); refine Kd.R_lit (Kd.int .i64) _ 3 ?hg (N := 8) ?hd (xs := ([1] : List Int)) (inner := [.int .i64 1]) (ok := fun _ => True) (okp := fun _ => True) ?hr ?hp (fun _ hk => hk) trivial (Below.refl _ _) (Nat.le_refl _) (by simp) ?_; (case hd => rfl); (case hg => rfl); (case hr => first | (go_simp; done) | (go_simp; rfl)); (case hp => exact (Reps.one (show Kd.M (Kd.int .i64) _ _ _ 1 [.int .i64 1] from rfl) (Reps.none _ _))); intro v195 w15 ho16 hb hg_ hnew_; (try clear hg_); (try clear hnew_); (first | rw [← Ny194.out] at ho16 | (simp only [Int.reduceToNat] at ho16; rw [← Ny194.out] at ho16)); have n0_ := Aside0.mk (Kd.R_lower ho16 (below_size (by repeat (first | (with_reducible first | exact HB.out | apply below_alloc | apply pw_below_drewN | apply below_drew1) | exact HB.out)))); have n1_ := Aside0.mk (below_step (by repeat (first | (with_reducible first | exact HB.out | apply below_alloc | apply pw_below_drewN | apply below_drew1) | exact HB.out)) hb); clear HB; have HO196 := n0_; have HB := n1_; clear n0_ n1_; (try clear hb); (try clear ho16)) | ((with_reducible refine gate_dst (N := 9) rfl ?_); (try (refine gate_guard (by rfl) ?_; dsimp only)); refine Kd.R_lit (Kd.int .i64) _ 3 ?hg (N := 9) ?hd (xs := ([1, 1] : List Int)) (inner := [.int .i64 1, .int .i64 1]) (ok := fun _ => True) (okp := fun _ => True) ?hr ?hp (fun _ hk => hk) trivial (Below.refl _ _) (Nat.le_refl _) (by simp) ?_; (case hd => rfl); (case hg => rfl); (case hr => first | (go_simp; done) | (go_simp; rfl)); (case hp => exact (Reps.one (show Kd.M (Kd.int .i64) _ _ _ 1 [.int .i64 1] from rfl) (Reps.one (show Kd.M (Kd.int .i64) _ _ _ 1 [.int .i64 1] from rfl) (Reps.none _ _)))); intro v198 w17 ho18 hb hg_ hnew_; (try clear hg_); (try clear hnew_); (first | rw [← Ny197.out] at ho18 | (simp only [Int.reduceToNat] at ho18; rw [← Ny197.out] at ho18)); have n0_ := Aside0.mk (Kd.R_elder' (by (with_reducible repeat (first | apply Kd.R_alloc | apply Kd.R_drewN | apply Kd.R_drew)); exact HO196.out) (Kd.R_base ho18) hb); have n1_ := Aside0.mk (Kd.R_lower (Kd.R_new' ho18 (Kd.R_lt (by (with_reducible repeat (first | apply Kd.R_alloc | apply Kd.R_drewN | apply Kd.R_drew)); exact HO196.out))) (below_size (by repeat (first | (with_reducible first | exact HB.out | apply below_alloc | apply pw_below_drewN | apply below_drew1) | exact HB.out)))); have n2_ := Aside0.mk (below_step (by repeat (first | (with_reducible first | exact HB.out | apply below_alloc | apply pw_below_drewN | apply below_drew1) | exact HB.out)) hb); clear HO196; clear HB; have HO196 := n0_; have HO199 := n1_; have HB := n2_; clear n0_ n1_ n2_; (try clear hb); (try clear ho18)) | ((with_reducible refine gate_dst (N := 11) rfl ?_); (try (refine gate_guard (by rfl) ?_; dsimp only)); refine Kd.R_lit k28 _ 28 ?hg (N := 11) ?hd (xs := ([(⟨0, 1⟩ : S28)] : List (S28))) (inner := [.int .i64 0, .int .i64 1]) (ok := fun _ => True) (okp := fun _ => True) ?hr ?hp (fun _ hk => hk) trivial (Below.refl _ _) (Nat.le_refl _) (by simp) ?_; (case hd => rfl); (case hg => rfl); (case hr => first | (go_simp; done) | (go_simp; rfl)); (case hp => exact (Reps.c2 (show Kd.M k28 _ _ _ (⟨0, 1⟩ : S28) [.int .i64 0, .int .i64 1] from (k28_mkM _ _ _ (⟨0, 1⟩ : S28) )) (Reps.none _ _))); intro v201 w19 ho20 hb hg_ hnew_; (try clear hg_); (try clear hnew_); (first | rw [← Ny200.out] at ho20 | (simp only [Int.reduceToNat] at ho20; rw [← Ny200.out] at ho20)); have n0_ := Aside0.mk (Kd.R_below (by (with_reducible repeat (first | apply Kd.R_alloc | apply Kd.R_drewN | apply Kd.R_drew)); exact HO196.out) hb); have n1_ := Aside0.mk (Kd.R_below (by (with_reducible repeat (first | apply Kd.R_alloc | apply Kd.R_drewN | apply Kd.R_drew)); exact HO199.out) hb); have n2_ := Aside0.mk (Kd.R_lower ho20 (below_size (by repeat (first | (with_reducible first | exact HB.out | apply below_alloc | apply pw_below_drewN | apply below_drew1) | exact HB.out)))); have n3_ := Aside0.mk (below_step (by repeat (first | (with_reducible first | exact HB.out | apply below_alloc | apply pw_below_drewN | apply below_drew1) | exact HB.out)) hb); clear HO196; clear HO199; clear HB; have HO196 := n0_; have HO199 := n1_; have HO202 := n2_; have HB := n3_; clear n0_ n1_ n2_ n3_; (try clear hb); (try clear ho20); obtain ⟨Ao21, co21, eo21⟩ := Kd.R_slice HO196.out; subst eo21; obtain ⟨Ao22, co22, eo22⟩ := Kd.R_slice HO199.out; subst eo22; obtain ⟨Ao23, co23, eo23⟩ := Kd.R_slice HO202.out; subst eo23) | ((first | (with_reducible refine gate_callee (f := 9) rfl ?_); refine goesL_ (some 12) rfl rfl Try.func9 (by kernel_rfl) rfl #[.slice Ao21 y194.length co21, .slice Ao22 y197.length co22, .slice Ao23 y200.length co23] rfl (by (try simp only [List.map_toArray, List.map_cons, List.map_nil]); first | done | rfl | (simp only [List.length_drop, List.length_take]; rfl)) ?_ | go_at_call 9); (with_reducible refine (canon_Left.calls k _ _ y194 _ _ y197 _ _ y200 t203 t204 _ ?side1 ?side2 ?side3 ?side4 ?side5 ?side6 A1.out).mono ?_); (case side1 => repeat (first | exact (Kd.R_reads' HO196.out).2.2 | (with_reducible refine Kd.C_alloc ?_ _) | (with_reducible refine Kd.C_drewN ?_ _) | (with_reducible refine Kd.C_drew ?_))); (case side2 => exact (Kd.R_reads' HO196.out).2.1); (case side3 => repeat (first | exact (Kd.R_reads' HO199.out).2.2 | (with_reducible refine Kd.C_alloc ?_ _) | (with_reducible refine Kd.C_drewN ?_ _) | (with_reducible refine Kd.C_drew ?_))); (case side4 => exact (Kd.R_reads' HO199.out).2.1); (case side5 => repeat (first | exact (Kd.R_reads' HO202.out).2.2 | (with_reducible refine Kd.C_alloc ?_ _) | (with_reducible refine Kd.C_drewN ?_ _) | (with_reducible refine Kd.C_drew ?_))); (case side6 => exact (Kd.R_reads' HO202.out).2.1); rintro e w24 ⟨v205, rfl, ho0, hb⟩; (try refine ⟨_, rfl, ?_⟩); have n0_ := Aside0.mk (Kd.R_below (by (with_reducible repeat (first | apply Kd.R_alloc | apply Kd.R_drewN | apply Kd.R_drew)); exact HO196.out) hb); have n1_ := Aside0.mk (Kd.R_below (by (with_reducible repeat (first | apply Kd.R_alloc | apply Kd.R_drewN | apply Kd.R_drew)); exact HO199.out) hb); have n2_ := Aside0.mk (Kd.R_elder' (by (with_reducible repeat (first | apply Kd.R_alloc | apply Kd.R_drewN | apply Kd.R_drew)); exact HO202.out) (Kd.R_base ho0) hb); have n3_ := Aside0.mk (Kd.R_lower (Kd.R_new' ho0 (Kd.R_lt (by (with_reducible repeat (first | apply Kd.R_alloc | apply Kd.R_drewN | apply Kd.R_drew)); exact HO202.out))) (below_size (by repeat (first | (with_reducible first | exact HB.out | apply below_alloc | apply pw_below_drewN | apply below_drew1) | exact HB.out)))); have n4_ := Aside0.mk (below_step (by repeat (first | (with_reducible first | exact HB.out | apply below_alloc | apply pw_below_drewN | apply below_drew1) | exact HB.out)) hb); clear HO196; clear HO199; clear HO202; clear HB; have HO196 := n0_; have HO199 := n1_; have HO202 := n2_; have HO206 := n3_; have HB := n4_; clear n0_ n1_ n2_ n3_ n4_; (try clear hb); (try clear hb2); (try clear hk); (try clear hi); (try clear ho0)) | ((with_reducible refine gate_dst (N := 16) rfl ?_); (try (refine gate_guard (by rfl) ?_; dsimp only)); refine Kd.R_lit (Kd.int .i64) _ 3 ?hg (N := 16) ?hd (xs := ([1, 1] : List Int)) (inner := [.int .i64 1, .int .i64 1]) (ok := fun _ => True) (okp := fun _ => True) ?hr ?hp (fun _ hk => hk) trivial (Below.refl _ _) (Nat.le_refl _) (by simp) ?_; (case hd => rfl); (case hg => rfl); (case hr => first | (go_simp; done) | (go_simp; rfl)); (case hp => exact (Reps.one (show Kd.M (Kd.int .i64) _ _ _ 1 [.int .i64 1] from rfl) (Reps.one (show Kd.M (Kd.int .i64) _ _ _ 1 [.int .i64 1] from rfl) (Reps.none _ _)))); intro v208 w25 ho26 hb hg_ hnew_; (try clear hg_); (try clear hnew_); (first | rw [← Ny207.out] at ho26 | (simp only [Int.reduceToNat] at ho26; rw [← Ny207.out] at ho26)); have n0_ := Aside0.mk (Kd.R_elder' (by (with_reducible repeat (first | apply Kd.R_alloc | apply Kd.R_drewN | apply Kd.R_drew)); exact HO196.out) (Kd.R_base ho26) hb); have n1_ := Aside0.mk (Kd.R_elder' (by (with_reducible repeat (first | apply Kd.R_alloc | apply Kd.R_drewN | apply Kd.R_drew)); exact HO199.out) (Kd.R_base ho26) hb); have n2_ := Aside0.mk (Kd.R_below (by (with_reducible repeat (first | apply Kd.R_alloc | apply Kd.R_drewN | apply Kd.R_drew)); exact HO202.out) hb); have n3_ := Aside0.mk (Kd.R_below (by (with_reducible repeat (first | apply Kd.R_alloc | apply Kd.R_drewN | apply Kd.R_drew)); exact HO206.out) hb); have n4_ := Aside0.mk (Kd.R_lower (Kd.R_new' (Kd.R_new' ho26 (Kd.R_lt (by (with_reducible repeat (first | apply Kd.R_alloc | apply Kd.R_drewN | apply Kd.R_drew)); exact HO196.out))) (Kd.R_lt (by (with_reducible repeat (first | apply Kd.R_alloc | apply Kd.R_drewN | apply Kd.R_drew)); exact HO199.out))) (below_size (by repeat (first | (with_reducible first | exact HB.out | apply below_alloc | apply pw_below_drewN | apply below_drew1) | exact HB.out)))); have n5_ := Aside0.mk (below_step (by repeat (first | (with_reducible first | exact HB.out | apply below_alloc | apply pw_below_drewN | apply below_drew1) | exact HB.out)) hb); clear HO196; clear HO199; clear HO202; clear HO206; clear HB; have HO196 := n0_; have HO199 := n1_; have HO202 := n2_; have HO206 := n3_; have HO209 := n4_; have HB := n5_; clear n0_ n1_ n2_ n3_ n4_ n5_; (try clear hb); (try clear ho26)) | ((with_reducible refine gate_dst (N := 17) rfl ?_); (try (refine gate_guard (by rfl) ?_; dsimp only)); refine Kd.R_lit (Kd.int .i64) _ 3 ?hg (N := 17) ?hd (xs := ([1] : List Int)) (inner := [.int .i64 1]) (ok := fun _ => True) (okp := fun _ => True) ?hr ?hp (fun _ hk => hk) trivial (Below.refl _ _) (Nat.le_refl _) (by simp) ?_; (case hd => rfl); (case hg => rfl); (case hr => first | (go_simp; done) | (go_simp; rfl)); (case hp => exact (Reps.one (show Kd.M (Kd.int .i64) _ _ _ 1 [.int .i64 1] from rfl) (Reps.none _ _))); intro v211 w27 ho28 hb hg_ hnew_; (try clear hg_); (try clear hnew_); (first | rw [← Ny210.out] at ho28 | (simp only [Int.reduceToNat] at ho28; rw [← Ny210.out] at ho28)); have n0_ := Aside0.mk (Kd.R_elder' (by (with_reducible repeat (first | apply Kd.R_alloc | apply Kd.R_drewN | apply Kd.R_drew)); exact HO196.out) (Kd.R_base ho28) hb); have n1_ := Aside0.mk (Kd.R_elder' (by (with_reducible repeat (first | apply Kd.R_alloc | apply Kd.R_drewN | apply Kd.R_drew)); exact HO199.out) (Kd.R_base ho28) hb); have n2_ := Aside0.mk (Kd.R_below (by (with_reducible repeat (first | apply Kd.R_alloc | apply Kd.R_drewN | apply Kd.R_drew)); exact HO202.out) hb); have n3_ := Aside0.mk (Kd.R_below (by (with_reducible repeat (first | apply Kd.R_alloc | apply Kd.R_drewN | apply Kd.R_drew)); exact HO206.out) hb); have n4_ := Aside0.mk (Kd.R_elder' (by (with_reducible repeat (first | apply Kd.R_alloc | apply Kd.R_drewN | apply Kd.R_drew)); exact HO209.out) (Kd.R_base ho28) hb); have n5_ := Aside0.mk (Kd.R_lower (Kd.R_new' (Kd.R_new' (Kd.R_new' ho28 (Kd.R_lt (by (with_reducible repeat (first | apply Kd.R_alloc | apply Kd.R_drewN | apply Kd.R_drew)); exact HO196.out))) (Kd.R_lt (by (with_reducible repeat (first | apply Kd.R_alloc | apply Kd.R_drewN | apply Kd.R_drew)); exact HO199.out))) (Kd.R_lt (by (with_reducible repeat (first | apply Kd.R_alloc | apply Kd.R_drewN | apply Kd.R_drew)); exact HO209.out))) (below_size (by repeat (first | (with_reducible first | exact HB.out | apply below_alloc | apply pw_below_drewN | apply below_drew1) | exact HB.out)))); have n6_ := Aside0.mk (below_step (by repeat (first | (with_reducible first | exact HB.out | apply below_alloc | apply pw_below_drewN | apply below_drew1) | exact HB.out)) hb); clear HO196; clear HO199; clear HO202; clear HO206; clear HO209; clear HB; have HO196 := n0_; have HO199 := n1_; have HO202 := n2_; have HO206 := n3_; have HO209 := n4_; have HO212 := n5_; have HB := n6_; clear n0_ n1_ n2_ n3_ n4_ n5_ n6_; (try clear hb); (try clear ho28)) | ((with_reducible refine gate_dst (N := 19) rfl ?_); (try (refine gate_guard (by rfl) ?_; dsimp only)); refine Kd.R_lit k28 _ 28 ?hg (N := 19) ?hd (xs := ([(⟨1, 0⟩ : S28)] : List (S28))) (inner := [.int .i64 1, .int .i64 0]) (ok := fun _ => True) (okp := fun _ => True) ?hr ?hp (fun _ hk => hk) trivial (Below.refl _ _) (Nat.le_refl _) (by simp) ?_; (case hd => rfl); (case hg => rfl); (case hr => first | (go_simp; done) | (go_simp; rfl)); (case hp => exact (Reps.c2 (show Kd.M k28 _ _ _ (⟨1, 0⟩ : S28) [.int .i64 1, .int .i64 0] from (k28_mkM _ _ _ (⟨1, 0⟩ : S28) )) (Reps.none _ _))); intro v214 w29 ho30 hb hg_ hnew_; (try clear hg_); (try clear hnew_); (first | rw [← Ny213.out] at ho30 | (simp only [Int.reduceToNat] at ho30; rw [← Ny213.out] at ho30)); have n0_ := Aside0.mk (Kd.R_below (by (with_reducible repeat (first | apply Kd.R_alloc | apply Kd.R_drewN | apply Kd.R_drew)); exact HO196.out) hb); have n1_ := Aside0.mk (Kd.R_below (by (with_reducible repeat (first | apply Kd.R_alloc | apply Kd.R_drewN | apply Kd.R_drew)); exact HO199.out) hb); have n2_ := Aside0.mk (Kd.R_elder' (by (with_reducible repeat (first | apply Kd.R_alloc | apply Kd.R_drewN | apply Kd.R_drew)); exact HO202.out) (Kd.R_base ho30) hb); have n3_ := Aside0.mk (Kd.R_elder' (by (with_reducible repeat (first | apply Kd.R_alloc | apply Kd.R_drewN | apply Kd.R_drew)); exact HO206.out) (Kd.R_base ho30) hb); have n4_ := Aside0.mk (Kd.R_below (by (with_reducible repeat (first | apply Kd.R_alloc | apply Kd.R_drewN | apply Kd.R_drew)); exact HO209.out) hb); have n5_ := Aside0.mk (Kd.R_below (by (with_reducible repeat (first | apply Kd.R_alloc | apply Kd.R_drewN | apply Kd.R_drew)); exact HO212.out) hb); have n6_ := Aside0.mk (Kd.R_lower (Kd.R_new' (Kd.R_new' ho30 (Kd.R_lt (by (with_reducible repeat (first | apply Kd.R_alloc | apply Kd.R_drewN | apply Kd.R_drew)); exact HO202.out))) (Kd.R_lt (by (with_reducible repeat (first | apply Kd.R_alloc | apply Kd.R_drewN | apply Kd.R_drew)); exact HO206.out))) (below_size (by repeat (first | (with_reducible first | exact HB.out | apply below_alloc | apply pw_below_drewN | apply below_drew1) | exact HB.out)))); have n7_ := Aside0.mk (below_step (by repeat (first | (with_reducible first | exact HB.out | apply below_alloc | apply pw_below_drewN | apply below_drew1) | exact HB.out)) hb); clear HO196; clear HO199; clear HO202; clear HO206; clear HO209; clear HO212; clear HB; have HO196 := n0_; have HO199 := n1_; have HO202 := n2_; have HO206 := n3_; have HO209 := n4_; have HO212 := n5_; have HO215 := n6_; have HB := n7_; clear n0_ n1_ n2_ n3_ n4_ n5_ n6_ n7_; (try clear hb); (try clear ho30); obtain ⟨Ao31, co31, eo31⟩ := Kd.R_slice HO209.out; subst eo31; obtain ⟨Ao32, co32, eo32⟩ := Kd.R_slice HO212.out; subst eo32; obtain ⟨Ao33, co33, eo33⟩ := Kd.R_slice HO215.out; subst eo33) | ((first | (with_reducible refine gate_callee (f := 10) rfl ?_); refine goesL_ (some 20) rfl rfl Try.func10 (by kernel_rfl) rfl #[.slice Ao31 y207.length co31, .slice Ao32 y210.length co32, .slice Ao33 y213.length co33] rfl (by (try simp only [List.map_toArray, List.map_cons, List.map_nil]); first | done | rfl | (simp only [List.length_drop, List.length_take]; rfl)) ?_ | go_at_call 10); (with_reducible refine (canon_Top.calls k _ _ y207 _ _ y210 _ _ y213 t216 t217 _ ?side1 ?side2 ?side3 ?side4 ?side5 ?side6 A2.out).mono ?_); (case side1 => repeat (first | exact (Kd.R_reads' HO209.out).2.2 | (with_reducible refine Kd.C_alloc ?_ _) | (with_reducible refine Kd.C_drewN ?_ _) | (with_reducible refine Kd.C_drew ?_))); (case side2 => exact (Kd.R_reads' HO209.out).2.1); (case side3 => repeat (first | exact (Kd.R_reads' HO212.out).2.2 | (with_reducible refine Kd.C_alloc ?_ _) | (with_reducible refine Kd.C_drewN ?_ _) | (with_reducible refine Kd.C_drew ?_))); (case side4 => exact (Kd.R_reads' HO212.out).2.1); (case side5 => repeat (first | exact (Kd.R_reads' HO215.out).2.2 | (with_reducible refine Kd.C_alloc ?_ _) | (with_reducible refine Kd.C_drewN ?_ _) | (with_reducible refine Kd.C_drew ?_))); (case side6 => exact (Kd.R_reads' HO215.out).2.1); rintro e w34 ⟨v218, rfl, ho0, hb⟩; (try refine ⟨_, rfl, ?_⟩); have n0_ := Aside0.mk (Kd.R_below (by (with_reducible repeat (first | apply Kd.R_alloc | apply Kd.R_drewN | apply Kd.R_drew)); exact HO196.out) hb); have n1_ := Aside0.mk (Kd.R_below (by (with_reducible repeat (first | apply Kd.R_alloc | apply Kd.R_drewN | apply Kd.R_drew)); exact HO199.out) hb); have n2_ := Aside0.mk (Kd.R_elder' (by (with_reducible repeat (first | apply Kd.R_alloc | apply Kd.R_drewN | apply Kd.R_drew)); exact HO202.out) (Kd.R_base ho0) hb); have n3_ := Aside0.mk (Kd.R_elder' (by (with_reducible repeat (first | apply Kd.R_alloc | apply Kd.R_drewN | apply Kd.R_drew)); exact HO206.out) (Kd.R_base ho0) hb); have n4_ := Aside0.mk (Kd.R_below (by (with_reducible repeat (first | apply Kd.R_alloc | apply Kd.R_drewN | apply Kd.R_drew)); exact HO209.out) hb); have n5_ := Aside0.mk (Kd.R_below (by (with_reducible repeat (first | apply Kd.R_alloc | apply Kd.R_drewN | apply Kd.R_drew)); exact HO212.out) hb); have n6_ := Aside0.mk (Kd.R_elder' (by (with_reducible repeat (first | apply Kd.R_alloc | apply Kd.R_drewN | apply Kd.R_drew)); exact HO215.out) (Kd.R_base ho0) hb); have n7_ := Aside0.mk (Kd.R_lower (Kd.R_new' (Kd.R_new' (Kd.R_new' ho0 (Kd.R_lt (by (with_reducible repeat (first | apply Kd.R_alloc | apply Kd.R_drewN | apply Kd.R_drew)); exact HO202.out))) (Kd.R_lt (by (with_reducible repeat (first | apply Kd.R_alloc | apply Kd.R_drewN | apply Kd.R_drew)); exact HO206.out))) (Kd.R_lt (by (with_reducible repeat (first | apply Kd.R_alloc | apply Kd.R_drewN | apply Kd.R_drew)); exact HO215.out))) (below_size (by repeat (first | (with_reducible first | exact HB.out | apply below_alloc | apply pw_below_drewN | apply below_drew1) | exact HB.out)))); have n8_ := Aside0.mk (below_step (by repeat (first | (with_reducible first | exact HB.out | apply below_alloc | apply pw_below_drewN | apply below_drew1) | exact HB.out)) hb); clear HO196; clear HO199; clear HO202; clear HO206; clear HO209; clear HO212; clear HO215; clear HB; have HO196 := n0_; have HO199 := n1_; have HO202 := n2_; have HO206 := n3_; have HO209 := n4_; have HO212 := n5_; have HO215 := n6_; have HO219 := n7_; have HB := n8_; clear n0_ n1_ n2_ n3_ n4_ n5_ n6_ n7_ n8_; (try clear hb); (try clear hb2); (try clear hk); (try clear hi); (try clear ho0)) | ((with_reducible refine gate_dst (N := 24) rfl ?_); (try (refine gate_guard (by rfl) ?_; dsimp only)); refine Kd.R_lit (Kd.int .i64) _ 3 ?hg (N := 24) ?hd (xs := ([1, 2] : List Int)) (inner := [.int .i64 1, .int .i64 2]) (ok := fun _ => True) (okp := fun _ => True) ?hr ?hp (fun _ hk => hk) trivial (Below.refl _ _) (Nat.le_refl _) (by simp) ?_; (case hd => rfl); (case hg => rfl); (case hr => first | (go_simp; done) | (go_simp; rfl)); (case hp => exact (Reps.one (show Kd.M (Kd.int .i64) _ _ _ 1 [.int .i64 1] from rfl) (Reps.one (show Kd.M (Kd.int .i64) _ _ _ 2 [.int .i64 2] from rfl) (Reps.none _ _)))); intro v221 w35 ho36 hb hg_ hnew_; (try clear hg_); (try clear hnew_); (first | rw [← Ny220.out] at ho36 | (simp only [Int.reduceToNat] at ho36; rw [← Ny220.out] at ho36)); have n0_ := Aside0.mk (Kd.R_elder' (by (with_reducible repeat (first | apply Kd.R_alloc | apply Kd.R_drewN | apply Kd.R_drew)); exact HO196.out) (Kd.R_base ho36) hb); have n1_ := Aside0.mk (Kd.R_elder' (by (with_reducible repeat (first | apply Kd.R_alloc | apply Kd.R_drewN | apply Kd.R_drew)); exact HO199.out) (Kd.R_base ho36) hb); have n2_ := Aside0.mk (Kd.R_below (by (with_reducible repeat (first | apply Kd.R_alloc | apply Kd.R_drewN | apply Kd.R_drew)); exact HO202.out) hb); have n3_ := Aside0.mk (Kd.R_below (by (with_reducible repeat (first | apply Kd.R_alloc | apply Kd.R_drewN | apply Kd.R_drew)); exact HO206.out) hb); have n4_ := Aside0.mk (Kd.R_elder' (by (with_reducible repeat (first | apply Kd.R_alloc | apply Kd.R_drewN | apply Kd.R_drew)); exact HO209.out) (Kd.R_base ho36) hb); have n5_ := Aside0.mk (Kd.R_elder' (by (with_reducible repeat (first | apply Kd.R_alloc | apply Kd.R_drewN | apply Kd.R_drew)); exact HO212.out) (Kd.R_base ho36) hb); have n6_ := Aside0.mk (Kd.R_below (by (with_reducible repeat (first | apply Kd.R_alloc | apply Kd.R_drewN | apply Kd.R_drew)); exact HO215.out) hb); have n7_ := Aside0.mk (Kd.R_below (by (with_reducible repeat (first | apply Kd.R_alloc | apply Kd.R_drewN | apply Kd.R_drew)); exact HO219.out) hb); have n8_ := Aside0.mk (Kd.R_lower (Kd.R_new' (Kd.R_new' (Kd.R_new' (Kd.R_new' ho36 (Kd.R_lt (by (with_reducible repeat (first | apply Kd.R_alloc | apply Kd.R_drewN | apply Kd.R_drew)); exact HO196.out))) (Kd.R_lt (by (with_reducible repeat (first | apply Kd.R_alloc | apply Kd.R_drewN | apply Kd.R_drew)); exact HO199.out))) (Kd.R_lt (by (with_reducible repeat (first | apply Kd.R_alloc | apply Kd.R_drewN | apply Kd.R_drew)); exact HO209.out))) (Kd.R_lt (by (with_reducible repeat (first | apply Kd.R_alloc | apply Kd.R_drewN | apply Kd.R_drew)); exact HO212.out))) (below_size (by repeat (first | (with_reducible first | exact HB.out | apply below_alloc | apply pw_below_drewN | apply below_drew1) | exact HB.out)))); have n9_ := Aside0.mk (below_step (by repeat (first | (with_reducible first | exact HB.out | apply below_alloc | apply pw_below_drewN | apply below_drew1) | exact HB.out)) hb); clear HO196; clear HO199; clear HO202; clear HO206; clear HO209; clear HO212; clear HO215; clear HO219; clear HB; have HO196 := n0_; have HO199 := n1_; have HO202 := n2_; have HO206 := n3_; have HO209 := n4_; have HO212 := n5_; have HO215 := n6_; have HO219 := n7_; have HO222 := n8_; have HB := n9_; clear n0_ n1_ n2_ n3_ n4_ n5_ n6_ n7_ n8_ n9_; (try clear hb); (try clear ho36)) | ((with_reducible refine gate_dst (N := 25) rfl ?_); (try (refine gate_guard (by rfl) ?_; dsimp only)); refine Kd.R_lit (Kd.int .i64) _ 3 ?hg (N := 25) ?hd (xs := ([2, 1] : List Int)) (inner := [.int .i64 2, .int .i64 1]) (ok := fun _ => True) (okp := fun _ => True) ?hr ?hp (fun _ hk => hk) trivial (Below.refl _ _) (Nat.le_refl _) (by simp) ?_; (case hd => rfl); (case hg => rfl); (case hr => first | (go_simp; done) | (go_simp; rfl)); (case hp => exact (Reps.one (show Kd.M (Kd.int .i64) _ _ _ 2 [.int .i64 2] from rfl) (Reps.one (show Kd.M (Kd.int .i64) _ _ _ 1 [.int .i64 1] from rfl) (Reps.none _ _)))); intro v224 w37 ho38 hb hg_ hnew_; (try clear hg_); (try clear hnew_); (first | rw [← Ny223.out] at ho38 | (simp only [Int.reduceToNat] at ho38; rw [← Ny223.out] at ho38)); have n0_ := Aside0.mk (Kd.R_elder' (by (with_reducible repeat (first | apply Kd.R_alloc | apply Kd.R_drewN | apply Kd.R_drew)); exact HO196.out) (Kd.R_base ho38) hb); have n1_ := Aside0.mk (Kd.R_elder' (by (with_reducible repeat (first | apply Kd.R_alloc | apply Kd.R_drewN | apply Kd.R_drew)); exact HO199.out) (Kd.R_base ho38) hb); have n2_ := Aside0.mk (Kd.R_below (by (with_reducible repeat (first | apply Kd.R_alloc | apply Kd.R_drewN | apply Kd.R_drew)); exact HO202.out) hb); have n3_ := Aside0.mk (Kd.R_below (by (with_reducible repeat (first | apply Kd.R_alloc | apply Kd.R_drewN | apply Kd.R_drew)); exact HO206.out) hb); have n4_ := Aside0.mk (Kd.R_elder' (by (with_reducible repeat (first | apply Kd.R_alloc | apply Kd.R_drewN | apply Kd.R_drew)); exact HO209.out) (Kd.R_base ho38) hb); have n5_ := Aside0.mk (Kd.R_elder' (by (with_reducible repeat (first | apply Kd.R_alloc | apply Kd.R_drewN | apply Kd.R_drew)); exact HO212.out) (Kd.R_base ho38) hb); have n6_ := Aside0.mk (Kd.R_below (by (with_reducible repeat (first | apply Kd.R_alloc | apply Kd.R_drewN | apply Kd.R_drew)); exact HO215.out) hb); have n7_ := Aside0.mk (Kd.R_below (by (with_reducible repeat (first | apply Kd.R_alloc | apply Kd.R_drewN | apply Kd.R_drew)); exact HO219.out) hb); have n8_ := Aside0.mk (Kd.R_elder' (by (with_reducible repeat (first | apply Kd.R_alloc | apply Kd.R_drewN | apply Kd.R_drew)); exact HO222.out) (Kd.R_base ho38) hb); have n9_ := Aside0.mk (Kd.R_lower (Kd.R_new' (Kd.R_new' (Kd.R_new' (Kd.R_new' (Kd.R_new' ho38 (Kd.R_lt (by (with_reducible repeat (first | apply Kd.R_alloc | apply Kd.R_drewN | apply Kd.R_drew)); exact HO196.out))) (Kd.R_lt (by (with_reducible repeat (first | apply Kd.R_alloc | apply Kd.R_drewN | apply Kd.R_drew)); exact HO199.out))) (Kd.R_lt (by (with_reducible repeat (first | apply Kd.R_alloc | apply Kd.R_drewN | apply Kd.R_drew)); exact HO209.out))) (Kd.R_lt (by (with_reducible repeat (first | apply Kd.R_alloc | apply Kd.R_drewN | apply Kd.R_drew)); exact HO212.out))) (Kd.R_lt (by (with_reducible repeat (first | apply Kd.R_alloc | apply Kd.R_drewN | apply Kd.R_drew)); exact HO222.out))) (below_size (by repeat (first | (with_reducible first | exact HB.out | apply below_alloc | apply pw_below_drewN | apply below_drew1) | exact HB.out)))); have n10_ := Aside0.mk (below_step (by repeat (first | (with_reducible first | exact HB.out | apply below_alloc | apply pw_below_drewN | apply below_drew1) | exact HB.out)) hb); clear HO196; clear HO199; clear HO202; clear HO206; clear HO209; clear HO212; clear HO215; clear HO219; clear HO222; clear HB; have HO196 := n0_; have HO199 := n1_; have HO202 := n2_; have HO206 := n3_; have HO209 := n4_; have HO212 := n5_; have HO215 := n6_; have HO219 := n7_; have HO222 := n8_; have HO225 := n9_; have HB := n10_; clear n0_ n1_ n2_ n3_ n4_ n5_ n6_ n7_ n8_ n9_ n10_; (try clear hb); (try clear ho38)) | ((with_reducible refine gate_dst (N := 27) rfl ?_); (try (refine gate_guard (by rfl) ?_; dsimp only)); refine Kd.R_lit k28 _ 28 ?hg (N := 27) ?hd (xs := ([(⟨1, 0⟩ : S28)] : List (S28))) (inner := [.int .i64 1, .int .i64 0]) (ok := fun _ => True) (okp := fun _ => True) ?hr ?hp (fun _ hk => hk) trivial (Below.refl _ _) (Nat.le_refl _) (by simp) ?_; (case hd => rfl); (case hg => rfl); (case hr => first | (go_simp; done) | (go_simp; rfl)); (case hp => exact (Reps.c2 (show Kd.M k28 _ _ _ (⟨1, 0⟩ : S28) [.int .i64 1, .int .i64 0] from (k28_mkM _ _ _ (⟨1, 0⟩ : S28) )) (Reps.none _ _))); intro v227 w39 ho40 hb hg_ hnew_; (try clear hg_); (try clear hnew_); (first | rw [← Ny226.out] at ho40 | (simp only [Int.reduceToNat] at ho40; rw [← Ny226.out] at ho40)); have n0_ := Aside0.mk (Kd.R_below (by (with_reducible repeat (first | apply Kd.R_alloc | apply Kd.R_drewN | apply Kd.R_drew)); exact HO196.out) hb); have n1_ := Aside0.mk (Kd.R_below (by (with_reducible repeat (first | apply Kd.R_alloc | apply Kd.R_drewN | apply Kd.R_drew)); exact HO199.out) hb); have n2_ := Aside0.mk (Kd.R_elder' (by (with_reducible repeat (first | apply Kd.R_alloc | apply Kd.R_drewN | apply Kd.R_drew)); exact HO202.out) (Kd.R_base ho40) hb); have n3_ := Aside0.mk (Kd.R_elder' (by (with_reducible repeat (first | apply Kd.R_alloc | apply Kd.R_drewN | apply Kd.R_drew)); exact HO206.out) (Kd.R_base ho40) hb); have n4_ := Aside0.mk (Kd.R_below (by (with_reducible repeat (first | apply Kd.R_alloc | apply Kd.R_drewN | apply Kd.R_drew)); exact HO209.out) hb); have n5_ := Aside0.mk (Kd.R_below (by (with_reducible repeat (first | apply Kd.R_alloc | apply Kd.R_drewN | apply Kd.R_drew)); exact HO212.out) hb); have n6_ := Aside0.mk (Kd.R_elder' (by (with_reducible repeat (first | apply Kd.R_alloc | apply Kd.R_drewN | apply Kd.R_drew)); exact HO215.out) (Kd.R_base ho40) hb); have n7_ := Aside0.mk (Kd.R_elder' (by (with_reducible repeat (first | apply Kd.R_alloc | apply Kd.R_drewN | apply Kd.R_drew)); exact HO219.out) (Kd.R_base ho40) hb); have n8_ := Aside0.mk (Kd.R_below (by (with_reducible repeat (first | apply Kd.R_alloc | apply Kd.R_drewN | apply Kd.R_drew)); exact HO222.out) hb); have n9_ := Aside0.mk (Kd.R_below (by (with_reducible repeat (first | apply Kd.R_alloc | apply Kd.R_drewN | apply Kd.R_drew)); exact HO225.out) hb); have n10_ := Aside0.mk (Kd.R_lower (Kd.R_new' (Kd.R_new' (Kd.R_new' (Kd.R_new' ho40 (Kd.R_lt (by (with_reducible repeat (first | apply Kd.R_alloc | apply Kd.R_drewN | apply Kd.R_drew)); exact HO202.out))) (Kd.R_lt (by (with_reducible repeat (first | apply Kd.R_alloc | apply Kd.R_drewN | apply Kd.R_drew)); exact HO206.out))) (Kd.R_lt (by (with_reducible repeat (first | apply Kd.R_alloc | apply Kd.R_drewN | apply Kd.R_drew)); exact HO215.out))) (Kd.R_lt (by (with_reducible repeat (first | apply Kd.R_alloc | apply Kd.R_drewN | apply Kd.R_drew)); exact HO219.out))) (below_size (by repeat (first | (with_reducible first | exact HB.out | apply below_alloc | apply pw_below_drewN | apply below_drew1) | exact HB.out)))); have n11_ := Aside0.mk (below_step (by repeat (first | (with_reducible first | exact HB.out | apply below_alloc | apply pw_below_drewN | apply below_drew1) | exact HB.out)) hb); clear HO196; clear HO199; clear HO202; clear HO206; clear HO209; clear HO212; clear HO215; clear HO219; clear HO222; clear HO225; clear HB; have HO196 := n0_; have HO199 := n1_; have HO202 := n2_; have HO206 := n3_; have HO209 := n4_; have HO212 := n5_; have HO215 := n6_; have HO219 := n7_; have HO222 := n8_; have HO225 := n9_; have HO228 := n10_; have HB := n11_; clear n0_ n1_ n2_ n3_ n4_ n5_ n6_ n7_ n8_ n9_ n10_ n11_; (try clear hb); (try clear ho40); obtain ⟨Ao41, co41, eo41⟩ := Kd.R_slice HO222.out; subst eo41; obtain ⟨Ao42, co42, eo42⟩ := Kd.R_slice HO225.out; subst eo42; obtain ⟨Ao43, co43, eo43⟩ := Kd.R_slice HO228.out; subst eo43) | ((first | (with_reducible refine gate_callee (f := 8) rfl ?_); refine goesL_ (some 28) rfl rfl Try.func8 (by kernel_rfl) rfl #[.slice Ao41 y220.length co41, .slice Ao42 y223.length co42, .slice Ao43 y226.length co43] rfl (by (try simp only [List.map_toArray, List.map_cons, List.map_nil]); first | done | rfl | (simp only [List.length_drop, List.length_take]; rfl)) ?_ | go_at_call 8); (with_reducible refine (canon_Of.calls k _ _ y220 _ _ y223 _ _ y226 t229 t230 _ ?side1 ?side2 ?side3 ?side4 ?side5 ?side6 A3.out).mono ?_); (case side1 => repeat (first | exact (Kd.R_reads' HO222.out).2.2 | (with_reducible refine Kd.C_alloc ?_ _) | (with_reducible refine Kd.C_drewN ?_ _) | (with_reducible refine Kd.C_drew ?_))); (case side2 => exact (Kd.R_reads' HO222.out).2.1); (case side3 => repeat (first | exact (Kd.R_reads' HO225.out).2.2 | (with_reducible refine Kd.C_alloc ?_ _) | (with_reducible refine Kd.C_drewN ?_ _) | (with_reducible refine Kd.C_drew ?_))); (case side4 => exact (Kd.R_reads' HO225.out).2.1); (case side5 => repeat (first | exact (Kd.R_reads' HO228.out).2.2 | (with_reducible refine Kd.C_alloc ?_ _) | (with_reducible refine Kd.C_drewN ?_ _) | (with_reducible refine Kd.C_drew ?_))); (case side6 => exact (Kd.R_reads' HO228.out).2.1); rintro e w44 ⟨v231, rfl, ho0, hb⟩; (try refine ⟨_, rfl, ?_⟩); have n0_ := Aside0.mk (Kd.R_below (by (with_reducible repeat (first | apply Kd.R_alloc | apply Kd.R_drewN | apply Kd.R_drew)); exact HO196.out) hb); have n1_ := Aside0.mk (Kd.R_below (by (with_reducible repeat (first | apply Kd.R_alloc | apply Kd.R_drewN | apply Kd.R_drew)); exact HO199.out) hb); have n2_ := Aside0.mk (Kd.R_elder' (by (with_reducible repeat (first | apply Kd.R_alloc | apply Kd.R_drewN | apply Kd.R_drew)); exact HO202.out) (Kd.R_base ho0) hb); have n3_ := Aside0.mk (Kd.R_elder' (by (with_reducible repeat (first | apply Kd.R_alloc | apply Kd.R_drewN | apply Kd.R_drew)); exact HO206.out) (Kd.R_base ho0) hb); have n4_ := Aside0.mk (Kd.R_below (by (with_reducible repeat (first | apply Kd.R_alloc | apply Kd.R_drewN | apply Kd.R_drew)); exact HO209.out) hb); have n5_ := Aside0.mk (Kd.R_below (by (with_reducible repeat (first | apply Kd.R_alloc | apply Kd.R_drewN | apply Kd.R_drew)); exact HO212.out) hb); have n6_ := Aside0.mk (Kd.R_elder' (by (with_reducible repeat (first | apply Kd.R_alloc | apply Kd.R_drewN | apply Kd.R_drew)); exact HO215.out) (Kd.R_base ho0) hb); have n7_ := Aside0.mk (Kd.R_elder' (by (with_reducible repeat (first | apply Kd.R_alloc | apply Kd.R_drewN | apply Kd.R_drew)); exact HO219.out) (Kd.R_base ho0) hb); have n8_ := Aside0.mk (Kd.R_below (by (with_reducible repeat (first | apply Kd.R_alloc | apply Kd.R_drewN | apply Kd.R_drew)); exact HO222.out) hb); have n9_ := Aside0.mk (Kd.R_below (by (with_reducible repeat (first | apply Kd.R_alloc | apply Kd.R_drewN | apply Kd.R_drew)); exact HO225.out) hb); have n10_ := Aside0.mk (Kd.R_elder' (by (with_reducible repeat (first | apply Kd.R_alloc | apply Kd.R_drewN | apply Kd.R_drew)); exact HO228.out) (Kd.R_base ho0) hb); have n11_ := Aside0.mk (Kd.R_lower (Kd.R_new' (Kd.R_new' (Kd.R_new' (Kd.R_new' (Kd.R_new' ho0 (Kd.R_lt (by (with_reducible repeat (first | apply Kd.R_alloc | apply Kd.R_drewN | apply Kd.R_drew)); exact HO202.out))) (Kd.R_lt (by (with_reducible repeat (first | apply Kd.R_alloc | apply Kd.R_drewN | apply Kd.R_drew)); exact HO206.out))) (Kd.R_lt (by (with_reducible repeat (first | apply Kd.R_alloc | apply Kd.R_drewN | apply Kd.R_drew)); exact HO215.out))) (Kd.R_lt (by (with_reducible repeat (first | apply Kd.R_alloc | apply Kd.R_drewN | apply Kd.R_drew)); exact HO219.out))) (Kd.R_lt (by (with_reducible repeat (first | apply Kd.R_alloc | apply Kd.R_drewN | apply Kd.R_drew)); exact HO228.out))) (below_size (by repeat (first | (with_reducible first | exact HB.out | apply below_alloc | apply pw_below_drewN | apply below_drew1) | exact HB.out)))); have n12_ := Aside0.mk (below_step (by repeat (first | (with_reducible first | exact HB.out | apply below_alloc | apply pw_below_drewN | apply below_drew1) | exact HB.out)) hb); clear HO196; clear HO199; clear HO202; clear HO206; clear HO209; clear HO212; clear HO215; clear HO219; clear HO222; clear HO225; clear HO228; clear HB; have HO196 := n0_; have HO199 := n1_; have HO202 := n2_; have HO206 := n3_; have HO209 := n4_; have HO212 := n5_; have HO215 := n6_; have HO219 := n7_; have HO222 := n8_; have HO225 := n9_; have HO228 := n10_; have HO232 := n11_; have HB := n12_; clear n0_ n1_ n2_ n3_ n4_ n5_ n6_ n7_ n8_ n9_ n10_ n11_ n12_; (try clear hb); (try clear hb2); (try clear hk); (try clear hi); (try clear ho0); obtain ⟨Ao45, co45, eo45⟩ := Kd.R_slice HO206.out; subst eo45; have p233 : 0 ≤ (0 : Int) := (by omega); have q233 : 0 < (t203.length : Int) := of_decide_eq_true (by first | (with_reducible assumption) | assumption); obtain ⟨ad233, e233, hx233_0, hx233_1⟩ := at_T28 (Kd.R_reads' HO206.out).2.2 0 p233 q233; cases e233; have qi233 : (0 < t203.length) = True := eq_true (by omega); (try rw [show ((0 : Int)).toNat = 0 from rfl] at hx233_0); (try rw [show 0 * 2 = 0 from rfl] at hx233_0); (try rw [Addr.add_zero'] at hx233_0); (try rw [show ((0 : Int)).toNat = 0 from rfl] at hx233_1); (try rw [show 0 * 2 = 0 from rfl] at hx233_1); (try rw [Addr.add_zero'] at hx233_1); replace p233 := eq_true p233; replace q233 := eq_true q233; obtain ⟨Ao46, co46, eo46⟩ := Kd.R_slice HO219.out; subst eo46; have p234 : 0 ≤ (0 : Int) := (by omega); have q234 : 0 < (t216.length : Int) := of_decide_eq_true (by first | (with_reducible assumption) | assumption); obtain ⟨ad234, e234, hx234_0, hx234_1⟩ := at_T28 (Kd.R_reads' HO219.out).2.2 0 p234 q234; cases e234; have qi234 : (0 < t216.length) = True := eq_true (by omega); (try rw [show ((0 : Int)).toNat = 0 from rfl] at hx234_0); (try rw [show 0 * 2 = 0 from rfl] at hx234_0); (try rw [Addr.add_zero'] at hx234_0); (try rw [show ((0 : Int)).toNat = 0 from rfl] at hx234_1); (try rw [show 0 * 2 = 0 from rfl] at hx234_1); (try rw [Addr.add_zero'] at hx234_1); replace p234 := eq_true p234; replace q234 := eq_true q234; obtain ⟨Ao47, co47, eo47⟩ := Kd.R_slice HO232.out; subst eo47; have p235 : 0 ≤ (0 : Int) := (by omega); have q235 : 0 < (t229.length : Int) := of_decide_eq_true (by first | (with_reducible assumption) | assumption); obtain ⟨ad235, e235, hx235_0, hx235_1⟩ := at_T28 (Kd.R_reads' HO232.out).2.2 0 p235 q235; cases e235; have qi235 : (0 < t229.length) = True := eq_true (by omega); (try rw [show ((0 : Int)).toNat = 0 from rfl] at hx235_0); (try rw [show 0 * 2 = 0 from rfl] at hx235_0); (try rw [Addr.add_zero'] at hx235_0); (try rw [show ((0 : Int)).toNat = 0 from rfl] at hx235_1); (try rw [show 0 * 2 = 0 from rfl] at hx235_1); (try rw [Addr.add_zero'] at hx235_1); replace p235 := eq_true p235; replace q235 := eq_true q235))
            go_ret
            exact ⟨by first | rfl | (simp [errW_none, errW_some] <;> rfl) | (simp [*, errW_none, errW_some] <;> rfl), by repeat (first | (with_reducible first | exact HB.out | apply below_alloc | apply pw_below_drewN | apply below_drew1) | exact HB.out)⟩
           ·rw [if_neg c14] at H
            exact absurd H (by simp)
          ·rw [if_neg c13] at H
           have c13b0 : ((t229.length : Int) == 1) = false := beq_eq_false_iff_ne.mpr c13
           have c13b1 : ((t229.length : Int) != 1) = true := bne_iff_ne.mpr c13
           exact absurd (Option.some.inj H) (by rw [hr_]; decide)
         ·rw [if_neg c12] at H
          have c12b0 : (t230 == 0) = false := beq_eq_false_iff_ne.mpr c12
          have c12b1 : (t230 != 0) = true := bne_iff_ne.mpr c12
          exact absurd (Option.some.inj H) (by rw [hr_]; decide)
        ·rw [if_neg c11] at H
         have c11b0 : (((rd_T28 t216 0).f0) == 0 && (((rd_T28 t216 0).f1) == 0)) = false := by simpa using c11
         (try (have c11b1 : decide (((rd_T28 t216 0).f0) = 0 && (((rd_T28 t216 0).f1) == 0)) = false := by simpa using c11))
         (try (have c11b2 : (((rd_T28 t216 0).f0) == 0 && (((rd_T28 t216 0).f1) == 0)) = false := by simpa using c11))
         (try (have c11b3 : ¬ (((rd_T28 t216 0).f0) = 0 && (((rd_T28 t216 0).f1) == 0)) := by simpa using c11))
         clear c11
         exact absurd (Option.some.inj H) (by rw [hr_]; decide)
       ·rw [if_neg c10] at H
        exact absurd H (by simp)
      ·rw [if_neg c9] at H
       have c9b0 : ((t216.length : Int) == 1) = false := beq_eq_false_iff_ne.mpr c9
       have c9b1 : ((t216.length : Int) != 1) = true := bne_iff_ne.mpr c9
       exact absurd (Option.some.inj H) (by rw [hr_]; decide)
     ·rw [if_neg c8] at H
      have c8b0 : (t217 == 0) = false := beq_eq_false_iff_ne.mpr c8
      have c8b1 : (t217 != 0) = true := bne_iff_ne.mpr c8
      exact absurd (Option.some.inj H) (by rw [hr_]; decide)
    ·rw [if_neg c7] at H
     have c7b0 : (((rd_T28 t203 0).f0) == 0 && (((rd_T28 t203 0).f1) == 0)) = false := by simpa using c7
     (try (have c7b1 : decide (((rd_T28 t203 0).f0) = 0 && (((rd_T28 t203 0).f1) == 0)) = false := by simpa using c7))
     (try (have c7b2 : (((rd_T28 t203 0).f0) == 0 && (((rd_T28 t203 0).f1) == 0)) = false := by simpa using c7))
     (try (have c7b3 : ¬ (((rd_T28 t203 0).f0) = 0 && (((rd_T28 t203 0).f1) == 0)) := by simpa using c7))
     clear c7
     exact absurd (Option.some.inj H) (by rw [hr_]; decide)
   ·rw [if_neg c6] at H
    exact absurd H (by simp)
  ·rw [if_neg c5] at H
   have c5b0 : ((t203.length : Int) == 1) = false := beq_eq_false_iff_ne.mpr c5
   have c5b1 : ((t203.length : Int) != 1) = true := bne_iff_ne.mpr c5
   exact absurd (Option.some.inj H) (by rw [hr_]; decide)
 ·rw [if_neg c4] at H
  have c4b0 : (t204 == 0) = false := beq_eq_false_iff_ne.mpr c4
  have c4b1 : (t204 != 0) = true := bne_iff_ne.mpr c4
  exact absurd (Option.some.inj H) (by rw [hr_]; decide)

/-! ### tattingref1_SamePairs: function 12 -/
def tattingref1_SamePairs.l0 : Nat → List (S28) → List (S28) → Int → Option (Bool)
 | 0, _, _, _ => none
 | k + 1, x0, x1, x5 => if x5 < (x0.length : Int) then (if 0 ≤ x5 then (if x5 < (x1.length : Int) then (if (!(((rd_T28 x0 x5).f0) == ((rd_T28 x1 x5).f0)) || (!(((rd_T28 x0 x5).f1) == ((rd_T28 x1 x5).f1)))) = true then (some false) else (tattingref1_SamePairs.l0 k x0 x1 (wrap64 (x5 + 1)))) else (none)) else (none)) else (some true)
def tattingref1_SamePairs.f (k : Nat) (l0 : List (S28)) (l1 : List (S28)) : Option (Bool) := if (l0.length : Int) = (l1.length : Int) then (tattingref1_SamePairs.l0 k l0 l1 0) else (some false)
theorem tattingref1_SamePairs.mono_l : ∀ k, (∀ y0 y1 y2, LeO (tattingref1_SamePairs.l0 k y0 y1 y2) (tattingref1_SamePairs.l0 (k + 1) y0 y1 y2))
 | 0 => fun _ _ _ r h => by simp [tattingref1_SamePairs.l0] at h
 | k + 1 => by
  have ih0 := tattingref1_SamePairs.mono_l k
  ·intro y0 y1 y2
   unfold tattingref1_SamePairs.l0
   repeat' first
   | (with_reducible exact ih0 _ _ _)
   | (with_reducible exact LeO.refl _)
   | (with_reducible exact LeO.none _)
   | (with_reducible refine LeO.ite ?_ ?_)
   | (with_reducible refine LeO.bind ?_ (fun _ => ?_))
   | exact ih0 _ _ _
   | exact LeO.none _
   | refine LeO.ite ?_ ?_
   | refine LeO.bind ?_ (fun _ => ?_)
theorem tattingref1_SamePairs.mono : ∀ a0 a1 k, LeO (tattingref1_SamePairs.f k a0 a1) (tattingref1_SamePairs.f (k + 1) a0 a1) := by
 intro a0 a1 k
 have ih0 := tattingref1_SamePairs.mono_l k
 unfold tattingref1_SamePairs.f
 repeat' first
   | (with_reducible exact ih0 _ _ _)
   | (with_reducible exact LeO.refl _)
   | (with_reducible exact LeO.none _)
   | (with_reducible refine LeO.ite ?_ ?_)
   | (with_reducible refine LeO.bind ?_ (fun _ => ?_))
   | exact ih0 _ _ _
   | exact LeO.none _
   | refine LeO.ite ?_ ?_
   | refine LeO.bind ?_ (fun _ => ?_)
set_option maxHeartbeats 8000000 in
set_option maxRecDepth 100000 in
theorem tattingref1_SamePairs.calls (k : Nat) (A0 : Option Addr) (c0 : Nat) (l0 : List (S28)) (A1 : Option Addr) (c1 : Nat) (l1 : List (S28)) (r : Bool) (w : World) (hr0 : Kd.C k28 w A0 l0.length l0) (hc0 : l0.length ≤ c0) (hr1 : Kd.C k28 w A1 l1.length l1) (hc1 : l1.length ≤ c1) (h : tattingref1_SamePairs.f k l0 l1 = some r) :
  Calls Try.prog 12 #[.slice A0 l0.length c0, .slice A1 l1.length c1] w fun e w' => e = .returned (.bool r) ∧ Drawn0 w w' := by
 have hu28 := Try.underlying28
 have HR0 := Aside0.mk hr0
 have HC0 := Aside0.mk hc0
 clear hr0 hc0
 have HR1 := Aside0.mk hr1
 have HC1 := Aside0.mk hc1
 clear hr1 hc1
 have H : (if (l0.length : Int) = (l1.length : Int) then (tattingref1_SamePairs.l0 k l0 l1 0) else (some false)) = some r := h
 clear h
 by_cases c3 : (l0.length : Int) = (l1.length : Int)
 ·rw [if_pos c3] at H
  have c3b0 : ((l0.length : Int) == (l1.length : Int)) = true := beq_iff_eq.mpr c3
  have c3b1 : ((l0.length : Int) != (l1.length : Int)) = false := bne_eq_false_iff_eq.mpr c3
  have c3b2 : (l0.length == l1.length) = true := by first | simpa using c3 | (simp at c3 ⊢; omega)
  clear c3
  have H' := Aside0.mk H
  clear H
  go_enter Try.func12, Try.ntmps12
  go_wp2
  repeat (go_quiet (fail); try go_wp2)
  go_loopg [5] k (fun kq v5 w' => ∃ (x5_1 : Int), v5 = .int .i64 x5_1 ∧ Aside0 (tattingref1_SamePairs.l0 kq l0 l1 x5_1 = some r) ∧ Aside0 (kq ≤ k) ∧ Drawn0 w w')
  case atStart => exact ⟨(0), (by first | rfl | (simp; done) | (simp [*]; done)), H', ⟨Nat.le_refl _⟩, by repeat (first | exact Drawn0.refl _ | apply Drawn0.step)⟩
  case round =>
   clear H'
   try clear c1
   try clear p2
   try clear c3
   try clear c3b0
   try clear c3b1
   try clear c3b2
   obtain ⟨x5_1, rfl, HA, HK1, ⟨m1, rfl⟩⟩ := hrel
   cases gk with
   | zero => exact absurd HA.out (by simp [tattingref1_SamePairs.l0])
   | succ k1 =>
    have H := HA.out
    clear HA
    simp only [tattingref1_SamePairs.l0] at H
    by_cases c4 : x5_1 < (l0.length : Int)
    ·rw [if_pos c4] at H
     have c4b0 : decide (x5_1 < (l0.length : Int)) = true := decide_eq_true c4
     clear c4
     by_cases c5 : 0 ≤ x5_1
     ·rw [if_pos c5] at H
      have c5b0 : decide (0 ≤ x5_1) = true := decide_eq_true c5
      clear c5
      by_cases c6 : x5_1 < (l1.length : Int)
      ·rw [if_pos c6] at H
       have c6b0 : decide (x5_1 < (l1.length : Int)) = true := decide_eq_true c6
       clear c6
       by_cases c7 : (!(((rd_T28 l0 x5_1).f0) == ((rd_T28 l1 x5_1).f0)) || (!(((rd_T28 l0 x5_1).f1) == ((rd_T28 l1 x5_1).f1)))) = true
       ·rw [if_pos c7] at H
        have c7b0 : (!(((rd_T28 l0 x5_1).f0) == ((rd_T28 l1 x5_1).f0)) || (!(((rd_T28 l0 x5_1).f1) == ((rd_T28 l1 x5_1).f1)))) = true := c7
        clear c7
        obtain rfl := Option.some.inj H
        have p236 : 0 ≤ (x5_1 : Int) := of_decide_eq_true (by first | (with_reducible assumption) | assumption)
        have q236 : x5_1 < (l0.length : Int) := of_decide_eq_true (by first | (with_reducible assumption) | assumption)
        obtain ⟨ad236, e236, hx236_0, hx236_1⟩ := at_T28 HR0.out x5_1 p236 q236
        cases e236
        replace p236 := eq_true p236
        replace q236 := eq_true q236
        have p237 : 0 ≤ (x5_1 : Int) := of_decide_eq_true (by first | (with_reducible assumption) | assumption)
        have q237 : x5_1 < (l1.length : Int) := of_decide_eq_true (by first | (with_reducible assumption) | assumption)
        obtain ⟨ad237, e237, hx237_0, hx237_1⟩ := at_T28 HR1.out x5_1 p237 q237
        cases e237
        replace p237 := eq_true p237
        replace q237 := eq_true q237
        go_wp2
        repeat (go_quiet (fail); try go_wp2)
        go_ret
        exact ⟨by first | rfl | (simp; done) | (simp [*]; done), by repeat (first | exact Drawn0.refl _ | apply Drawn0.step)⟩
       ·rw [if_neg c7] at H
        have c7b0 : (!(((rd_T28 l0 x5_1).f0) == ((rd_T28 l1 x5_1).f0)) || (!(((rd_T28 l0 x5_1).f1) == ((rd_T28 l1 x5_1).f1)))) = false := by simpa using c7
        clear c7
        have H' := Aside0.mk H
        clear H
        have p236 : 0 ≤ (x5_1 : Int) := of_decide_eq_true (by first | (with_reducible assumption) | assumption)
        have q236 : x5_1 < (l0.length : Int) := of_decide_eq_true (by first | (with_reducible assumption) | assumption)
        obtain ⟨ad236, e236, hx236_0, hx236_1⟩ := at_T28 HR0.out x5_1 p236 q236
        cases e236
        replace p236 := eq_true p236
        replace q236 := eq_true q236
        have p237 : 0 ≤ (x5_1 : Int) := of_decide_eq_true (by first | (with_reducible assumption) | assumption)
        have q237 : x5_1 < (l1.length : Int) := of_decide_eq_true (by first | (with_reducible assumption) | assumption)
        obtain ⟨ad237, e237, hx237_0, hx237_1⟩ := at_T28 HR1.out x5_1 p237 q237
        cases e237
        replace p237 := eq_true p237
        replace q237 := eq_true q237
        go_wp2
        repeat (go_quiet (fail); try go_wp2)
        go_roundg k1
        case measure => have := HK1.out; omega
        case rel => exact ⟨(wrap64 (x5_1 + 1)), (by first | rfl | (simp; done) | (simp [*]; done)), H', ⟨by have := HK1.out; omega⟩, by repeat (first | exact Drawn0.refl _ | apply Drawn0.step)⟩
      ·rw [if_neg c6] at H
       exact absurd H (by simp)
     ·rw [if_neg c5] at H
      exact absurd H (by simp)
    ·rw [if_neg c4] at H
     have c4b0 : decide (x5_1 < (l0.length : Int)) = false := decide_eq_false c4
     clear c4
     obtain rfl := Option.some.inj H
     go_wp2
     repeat (go_quiet (fail); try go_wp2)
     go_ret
     exact ⟨by first | rfl | (simp; done) | (simp [*]; done), by repeat (first | exact Drawn0.refl _ | apply Drawn0.step)⟩
 ·rw [if_neg c3] at H
  have c3b0 : ((l0.length : Int) == (l1.length : Int)) = false := beq_eq_false_iff_ne.mpr c3
  have c3b1 : ((l0.length : Int) != (l1.length : Int)) = true := bne_iff_ne.mpr c3
  have c3b2 : (l0.length == l1.length) = false := by first | simpa using c3 | (simp at c3 ⊢; omega)
  obtain rfl := Option.some.inj H
  go_enter Try.func12, Try.ntmps12
  go_wp2
  repeat (go_quiet (fail); try go_wp2)
  go_ret
  exact ⟨by first | rfl | (simp; done) | (simp [*]; done), by repeat (first | exact Drawn0.refl _ | apply Drawn0.step)⟩

/-! ### tattingref1_Few: function 13 -/
def tattingref1_Few.l0 : Nat → List Int → Int → List Int → Int → Option (List Int)
 | 0, _, _, _, _ => none
 | k + 1, x0, x1, x5, x6 => if x6 < (x0.length : Int) then (if 0 ≤ x6 then (if x1 = 0 then (none) else (if (Int.tmod (rd x0 x6) x1) < 0 then (if x5.length < 17592186044416 then (tattingref1_Few.l0 k x0 x1 (x5 ++ [wrap64 ((Int.tmod (rd x0 x6) x1) + x1)]) (wrap64 (x6 + 1))) else (none)) else (if x5.length < 17592186044416 then (tattingref1_Few.l0 k x0 x1 (x5 ++ [Int.tmod (rd x0 x6) x1]) (wrap64 (x6 + 1))) else (none)))) else (none)) else (some x5)
def tattingref1_Few.f (k : Nat) (l0 : List Int) (a1 : Int) : Option (List Int) := tattingref1_Few.l0 k l0 a1 ([] : List Int) 0
theorem tattingref1_Few.mono_l : ∀ k, (∀ y0 y1 y2 y3, LeO (tattingref1_Few.l0 k y0 y1 y2 y3) (tattingref1_Few.l0 (k + 1) y0 y1 y2 y3))
 | 0 => fun _ _ _ _ r h => by simp [tattingref1_Few.l0] at h
 | k + 1 => by
  have ih0 := tattingref1_Few.mono_l k
  ·intro y0 y1 y2 y3
   unfold tattingref1_Few.l0
   repeat' first
   | (with_reducible exact ih0 _ _ _ _)
   | (with_reducible exact LeO.refl _)
   | (with_reducible exact LeO.none _)
   | (with_reducible refine LeO.ite ?_ ?_)
   | (with_reducible refine LeO.bind ?_ (fun _ => ?_))
   | exact ih0 _ _ _ _
   | exact LeO.none _
   | refine LeO.ite ?_ ?_
   | refine LeO.bind ?_ (fun _ => ?_)
theorem tattingref1_Few.mono : ∀ a0 a1 k, LeO (tattingref1_Few.f k a0 a1) (tattingref1_Few.f (k + 1) a0 a1) := by
 intro a0 a1 k
 have ih0 := tattingref1_Few.mono_l k
 unfold tattingref1_Few.f
 repeat' first
   | (with_reducible exact ih0 _ _ _ _)
   | (with_reducible exact LeO.refl _)
   | (with_reducible exact LeO.none _)
   | (with_reducible refine LeO.ite ?_ ?_)
   | (with_reducible refine LeO.bind ?_ (fun _ => ?_))
   | exact ih0 _ _ _ _
   | exact LeO.none _
   | refine LeO.ite ?_ ?_
   | refine LeO.bind ?_ (fun _ => ?_)
set_option maxHeartbeats 8000000 in
set_option maxRecDepth 100000 in
theorem tattingref1_Few.calls (k : Nat) (A0 : Option Addr) (c0 : Nat) (l0 : List Int) (a1 : Int) (r : List Int) (w : World) (hr0 : Kd.C (Kd.int .i64) w A0 l0.length l0) (hc0 : l0.length ≤ c0) (h : tattingref1_Few.f k l0 a1 = some r) :
  Calls Try.prog 13 #[.slice A0 l0.length c0, .int .i64 a1] w fun e w' => ∃ v0_ : Value, e = .returned (v0_) ∧ Kd.R (Kd.int .i64) 3 w' w.heap.size (fun _ => True) v0_ r ∧ Below w.heap.size w w' := by
 have HR0 := Aside0.mk hr0
 have HC0 := Aside0.mk hc0
 clear hr0 hc0
 have HB := Aside0.mk (Below.refl w.heap.size w)
 have H : (tattingref1_Few.l0 k l0 a1 ([] : List Int) 0) = some r := h
 clear h
 have H' := Aside0.mk H
 clear H
 go_enter Try.func13, Try.ntmps13
 go_wp2
 go_loopg [5, 6] k (fun kq v5 v6 w' => ∃ (x5_1 : List Int) (x6_1 : Int), v6 = .int .i64 x6_1 ∧ Aside0 (tattingref1_Few.l0 kq l0 a1 x5_1 x6_1 = some r) ∧ Aside0 (kq ≤ k) ∧ Aside0 (Kd.R (Kd.int .i64) 3 w' w.heap.size (fun _ => True) v5 x5_1) ∧ Aside0 (Below w.heap.size w w'))
 case atStart => exact ⟨(([] : List Int)), (0), (by first | rfl | (simp; done) | (simp [*]; done)), H', ⟨Nat.le_refl _⟩, ⟨by first | exact Kd.R_nil _ _ _ _ _ | exact Kd.N_nil _ _ _ _ _ | exact Kd.V_nil _ _ _ _ _ | exact Kd.Q_nil _ _ _ _ _ | exact Kd.S_nil _ _ _ _ _⟩, ⟨by repeat (first | (with_reducible first | exact HB.out | apply below_alloc | apply pw_below_drewN | apply below_drew1) | exact HB.out)⟩⟩
 case round =>
  clear H'
  try clear c1
  try clear p2
  obtain ⟨x5_1, x6_1, rfl, HA, HK1, HO_5, HB⟩ := hrel
  cases gk with
  | zero => exact absurd HA.out (by simp [tattingref1_Few.l0])
  | succ k1 =>
   have H := HA.out
   clear HA
   simp only [tattingref1_Few.l0] at H
   by_cases c3 : x6_1 < (l0.length : Int)
   ·rw [if_pos c3] at H
    have c3b0 : decide (x6_1 < (l0.length : Int)) = true := decide_eq_true c3
    clear c3
    by_cases c4 : 0 ≤ x6_1
    ·rw [if_pos c4] at H
     have c4b0 : decide (0 ≤ x6_1) = true := decide_eq_true c4
     clear c4
     by_cases c5 : a1 = 0
     ·rw [if_pos c5] at H
      exact absurd H (by simp)
     ·rw [if_neg c5] at H
      have c5b0 : (a1 == 0) = false := beq_eq_false_iff_ne.mpr c5
      have c5b1 : (a1 != 0) = true := bne_iff_ne.mpr c5
      by_cases c6 : (Int.tmod (rd l0 x6_1) a1) < 0
      ·rw [if_pos c6] at H
       have c6b0 : decide ((Int.tmod (rd l0 x6_1) a1) < 0) = true := decide_eq_true c6
       clear c6
       by_cases c7 : x5_1.length < 17592186044416
       ·rw [if_pos c7] at H
        have LMc7 := Aside0.mk c7
        clear c7
        obtain ⟨y239, hy239⟩ : ∃ y_ : List Int, y_ = (x5_1 ++ [wrap64 ((Int.tmod (rd l0 x6_1) a1) + a1)]) := ⟨_, rfl⟩
        replace H : (tattingref1_Few.l0 k1 l0 a1 y239 (wrap64 (x6_1 + 1))) = some r := by first | (rw [hy239]; with_reducible exact H) | (have H2_ := (Option.bind_some _ _).symm.trans H; rw [hy239]; with_reducible exact H2_) | (have H2_ := (Option.bind_some _ _).symm.trans H; with_reducible exact H2_) | with_reducible exact H | (rw [hy239]; exact H) | exact H
        have Ny239 := Aside0.mk hy239
        clear hy239
        have H' := Aside0.mk H
        clear H
        have p238 : 0 ≤ (x6_1 : Int) := of_decide_eq_true (by first | (with_reducible assumption) | assumption)
        have q238 : x6_1 < (l0.length : Int) := of_decide_eq_true (by first | (with_reducible assumption) | assumption)
        obtain ⟨ad238, e238, hx238_0⟩ := Kd.at_int HR0.out x6_1 p238 q238
        cases e238
        replace hx238_0 := (HB.out.cell (World.block_lt_of_cell? w _ hx238_0)).trans hx238_0
        replace p238 := eq_true p238
        replace q238 := eq_true q238
        go_wp2_with (first | ((with_reducible refine gate_builtin (b := .append) (xs := #[.tmp 25, .tmp 27]) rfl ?_); at_builtin; refine Kd.R_append (Kd.int .i64) (w0 := w) w.heap.size rfl (.tmp 25) (.tmp 27) 26 3 (.int .i64 0) 8 rfl Try.underlying26 info3 rfl (by decide) (by omega) u5 x5_1 (wrap64 ((Int.tmod (rd l0 x6_1) a1) + a1)) [.int .i64 (wrap64 ((Int.tmod (rd l0 x6_1) a1) + a1))] (fun _ => True) (fun _ => False) rfl rfl ?aP (fun _ hk => hk.elim) ?aF ?aO ?aB ?aS ?aL ?_; (case aP => exact rfl); (case aB => exact (by repeat (first | (with_reducible first | exact HB.out | apply below_alloc | apply pw_below_drewN | apply below_drew1) | exact HB.out))); (case aF => exact (fun _ _ => trivial)); (case aO => exact (by (with_reducible repeat (first | apply Kd.R_alloc | apply Kd.R_drewN | apply Kd.R_drew)); exact HO_5.out)); (case aS => exact (below_size (by repeat (first | (with_reducible first | exact HB.out | apply below_alloc | apply pw_below_drewN | apply below_drew1) | exact HB.out)))); (case aL => have := LMc7.out; omega); intro v240 w8 ho hb hg hat; rw [← Ny239.out] at ho; have n0_ := Aside0.mk (hb); have n1_ := Aside0.mk (ho); clear HB; clear HO_5; have HB := n0_; have HO241 := n1_; clear n0_ n1_; (try clear ho); (try clear hb); (try clear hg); (try clear hat)))
        go_roundg k1
        case measure => have := HK1.out; omega
        case rel => exact ⟨(y239), (wrap64 (x6_1 + 1)), (by first | rfl | (simp; done) | (simp [*]; done)), H', ⟨by have := HK1.out; omega⟩, ⟨by (with_reducible repeat (first | apply Kd.R_alloc | apply Kd.R_drewN | apply Kd.R_drew)); exact HO241.out⟩, ⟨by repeat (first | (with_reducible first | exact HB.out | apply below_alloc | apply pw_below_drewN | apply below_drew1) | exact HB.out)⟩⟩
       ·rw [if_neg c7] at H
        exact absurd H (by simp)
      ·rw [if_neg c6] at H
       have c6b0 : decide ((Int.tmod (rd l0 x6_1) a1) < 0) = false := decide_eq_false c6
       clear c6
       by_cases c9 : x5_1.length < 17592186044416
       ·rw [if_pos c9] at H
        have LMc9 := Aside0.mk c9
        clear c9
        obtain ⟨y242, hy242⟩ : ∃ y_ : List Int, y_ = (x5_1 ++ [Int.tmod (rd l0 x6_1) a1]) := ⟨_, rfl⟩
        replace H : (tattingref1_Few.l0 k1 l0 a1 y242 (wrap64 (x6_1 + 1))) = some r := by first | (rw [hy242]; with_reducible exact H) | (have H2_ := (Option.bind_some _ _).symm.trans H; rw [hy242]; with_reducible exact H2_) | (have H2_ := (Option.bind_some _ _).symm.trans H; with_reducible exact H2_) | with_reducible exact H | (rw [hy242]; exact H) | exact H
        have Ny242 := Aside0.mk hy242
        clear hy242
        have H' := Aside0.mk H
        clear H
        have p238 : 0 ≤ (x6_1 : Int) := of_decide_eq_true (by first | (with_reducible assumption) | assumption)
        have q238 : x6_1 < (l0.length : Int) := of_decide_eq_true (by first | (with_reducible assumption) | assumption)
        obtain ⟨ad238, e238, hx238_0⟩ := Kd.at_int HR0.out x6_1 p238 q238
        cases e238
        replace hx238_0 := (HB.out.cell (World.block_lt_of_cell? w _ hx238_0)).trans hx238_0
        replace p238 := eq_true p238
        replace q238 := eq_true q238
        go_wp2_with (first | ((with_reducible refine gate_builtin (b := .append) (xs := #[.tmp 25, .tmp 27]) rfl ?_); at_builtin; refine Kd.R_append (Kd.int .i64) (w0 := w) w.heap.size rfl (.tmp 25) (.tmp 27) 26 3 (.int .i64 0) 8 rfl Try.underlying26 info3 rfl (by decide) (by omega) u5 x5_1 (Int.tmod (rd l0 x6_1) a1) [.int .i64 (Int.tmod (rd l0 x6_1) a1)] (fun _ => True) (fun _ => False) rfl rfl ?aP (fun _ hk => hk.elim) ?aF ?aO ?aB ?aS ?aL ?_; (case aP => exact rfl); (case aB => exact (by repeat (first | (with_reducible first | exact HB.out | apply below_alloc | apply pw_below_drewN | apply below_drew1) | exact HB.out))); (case aF => exact (fun _ _ => trivial)); (case aO => exact (by (with_reducible repeat (first | apply Kd.R_alloc | apply Kd.R_drewN | apply Kd.R_drew)); exact HO_5.out)); (case aS => exact (below_size (by repeat (first | (with_reducible first | exact HB.out | apply below_alloc | apply pw_below_drewN | apply below_drew1) | exact HB.out)))); (case aL => have := LMc9.out; omega); intro v243 w10 ho hb hg hat; rw [← Ny242.out] at ho; have n0_ := Aside0.mk (hb); have n1_ := Aside0.mk (ho); clear HB; clear HO_5; have HB := n0_; have HO244 := n1_; clear n0_ n1_; (try clear ho); (try clear hb); (try clear hg); (try clear hat)))
        go_roundg k1
        case measure => have := HK1.out; omega
        case rel => exact ⟨(y242), (wrap64 (x6_1 + 1)), (by first | rfl | (simp; done) | (simp [*]; done)), H', ⟨by have := HK1.out; omega⟩, ⟨by (with_reducible repeat (first | apply Kd.R_alloc | apply Kd.R_drewN | apply Kd.R_drew)); exact HO244.out⟩, ⟨by repeat (first | (with_reducible first | exact HB.out | apply below_alloc | apply pw_below_drewN | apply below_drew1) | exact HB.out)⟩⟩
       ·rw [if_neg c9] at H
        exact absurd H (by simp)
    ·rw [if_neg c4] at H
     exact absurd H (by simp)
   ·rw [if_neg c3] at H
    have c3b0 : decide (x6_1 < (l0.length : Int)) = false := decide_eq_false c3
    clear c3
    obtain rfl := Option.some.inj H
    go_wp2
    go_ret
    exact ⟨_, by first | rfl | (simp [errW_none, errW_some] <;> rfl) | (simp [*, errW_none, errW_some] <;> rfl), by (with_reducible repeat (first | apply Kd.R_alloc | apply Kd.R_drewN | apply Kd.R_drew)); exact HO_5.out, by repeat (first | (with_reducible first | exact HB.out | apply below_alloc | apply pw_below_drewN | apply below_drew1) | exact HB.out)⟩

end Go.Proofs.Ytdegajidkboknaa.PCanonAny
