/- What the given program's functions come to, each a Lean function and the walk that shows it: no condition beside those that each theorem names. -/
import Derived.Test.YtdegajidkboknaaPCanonAnyx0
namespace Go.Proofs.Ytdegajidkboknaa.PCanonAny
open Go.RowKit Go.Proofs.YtdegajidkboknaaW.PrintWords Go.Proofs.YtdegajidkboknaaW.PrintLast Go.Proofs.YtdegajidkboknaaW.PrintMore
attribute [local go_sem] max2_int min2_int max_two min_two max_three min_three max_four min_four   -- for this text's walks alone
set_option linter.unusedVariables false
set_option linter.unusedSimpArgs false

/-! ### tattingref7_Turn: function 20 -/
def tattingref7_Turn.l0 : Nat → List (S28) → List (S28) → Int → Option ((List (S28)))
 | 0, _, _, _ => none
 | k + 1, x0, x3, x4 => if x4 < (x0.length : Int) then (if 0 ≤ x4 then (if x3.length < 8796093022208 then (tattingref7_Turn.l0 k x0 (x3 ++ [(⟨(rd_T28 x0 x4).f1, (rd_T28 x0 x4).f0⟩ : S28)]) (wrap64 (x4 + 1))) else (none)) else (none)) else (some x3)
def tattingref7_Turn.f (k : Nat) (l0 : List (S28)) : Option ((List (S28))) := tattingref7_Turn.l0 k l0 ([] : List (S28)) 0
theorem tattingref7_Turn.mono_l : ∀ k, (∀ y0 y1 y2, LeO (tattingref7_Turn.l0 k y0 y1 y2) (tattingref7_Turn.l0 (k + 1) y0 y1 y2))
 | 0 => fun _ _ _ r h => by simp [tattingref7_Turn.l0] at h
 | k + 1 => by
  have ih0 := tattingref7_Turn.mono_l k
  ·intro y0 y1 y2
   unfold tattingref7_Turn.l0
   repeat' first
   | (with_reducible exact ih0 _ _ _)
   | (with_reducible exact LeO.refl _)
   | (with_reducible exact LeO.none _)
   | (with_reducible refine LeO.ite ?_ ?_)
   | (with_reducible refine LeO.bind ?_ (fun _ => ?_))
   | exact ih0 _ _ _
   | exact LeO.none _
   | refine LeO.ite ?_ ?_
   | refine LeO.bind ?_ (fun _ => ?_)
theorem tattingref7_Turn.mono : ∀ a0 k, LeO (tattingref7_Turn.f k a0) (tattingref7_Turn.f (k + 1) a0) := by
 intro a0 k
 have ih0 := tattingref7_Turn.mono_l k
 unfold tattingref7_Turn.f
 repeat' first
   | (with_reducible exact ih0 _ _ _)
   | (with_reducible exact LeO.refl _)
   | (with_reducible exact LeO.none _)
   | (with_reducible refine LeO.ite ?_ ?_)
   | (with_reducible refine LeO.bind ?_ (fun _ => ?_))
   | exact ih0 _ _ _
   | exact LeO.none _
   | refine LeO.ite ?_ ?_
   | refine LeO.bind ?_ (fun _ => ?_)
def tattingref7_Turn.T5 : Bool × List (List Nat × List Nat) := (true, [([], []), ([], []), ([], []), ([1, 2], [1, 2]), ([3], [3]), ([4], [4]), ([], []), ([], []), ([6, 7], [6, 7]), ([8], [8]), ([9], [9]), ([5, 10], [5, 10]), ([11], [11]), ([0, 12], [0, 12]), ([13, 13, 0, 1, 2, 3, 4, 5, 6, 7, 8, 9, 10, 11, 12, 13], [0, 13])])
def tattingref7_Turn.B5 : List Nat := [0, 0, 0, 6, 14, 30, 0, 0, 192, 448, 960, 2046, 4094, 8191, 16383]
theorem tattingref7_Turn.tab5 : rtab .any (opsOf Try.f20 5) = tattingref7_Turn.T5 := by kernel_rfl
theorem tattingref7_Turn.bits5 : waitsOk tattingref7_Turn.T5.2 tattingref7_Turn.B5 = true := by kernel_rfl
set_option maxHeartbeats 8000000 in
set_option maxRecDepth 100000 in
theorem tattingref7_Turn.calls (k : Nat) (A0 : Option Addr) (c0 : Nat) (l0 : List (S28)) (r : List (S28)) (w : World) (hr0 : Kd.C k28 w A0 l0.length l0) (hc0 : l0.length ≤ c0) (h : tattingref7_Turn.f k l0 = some r) :
  Calls Try.prog 20 #[.slice A0 l0.length c0] w fun e w' => ∃ v0_ : Value, e = .returned (v0_) ∧ Kd.R k28 28 w' w.heap.size (fun _ => True) v0_ r ∧ Below w.heap.size w w' := by
 have hu28 := Try.underlying28
 have HR0 := Aside0.mk hr0
 have HC0 := Aside0.mk hc0
 clear hr0 hc0
 have HB := Aside0.mk (Below.refl w.heap.size w)
 have H : (tattingref7_Turn.l0 k l0 ([] : List (S28)) 0) = some r := h
 clear h
 have H' := Aside0.mk H
 clear H
 go_enter Try.func20, Try.ntmps20
 go_wp2
 go_loopg [3, 4] k (fun kq v3 v4 w' => ∃ (x3_1 : List (S28)) (x4_1 : Int), v4 = .int .i64 x4_1 ∧ Aside0 (tattingref7_Turn.l0 kq l0 x3_1 x4_1 = some r) ∧ Aside0 (kq ≤ k) ∧ Aside0 (Kd.R k28 28 w' w.heap.size (fun _ => True) v3 x3_1) ∧ Aside0 (Below w.heap.size w w'))
 case atStart => exact ⟨(([] : List (S28))), (0), (by first | rfl | (simp; done) | (simp [*]; done)), H', ⟨Nat.le_refl _⟩, ⟨by first | exact Kd.R_nil _ _ _ _ _ | exact Kd.N_nil _ _ _ _ _ | exact Kd.V_nil _ _ _ _ _ | exact Kd.Q_nil _ _ _ _ _ | exact Kd.S_nil _ _ _ _ _⟩, ⟨by repeat (first | (with_reducible first | exact HB.out | apply below_alloc | apply pw_below_drewN | apply below_drew1) | exact HB.out)⟩⟩
 case round =>
  clear H'
  obtain ⟨x3_1, x4_1, rfl, HA, HK1, HO_3, HB⟩ := hrel
  cases gk with
  | zero => exact absurd HA.out (by simp [tattingref7_Turn.l0])
  | succ k1 =>
   have H := HA.out
   clear HA
   simp only [tattingref7_Turn.l0] at H
   by_cases c2 : x4_1 < (l0.length : Int)
   ·rw [if_pos c2] at H
    have c2b0 : decide (x4_1 < (l0.length : Int)) = true := decide_eq_true c2
    clear c2
    by_cases c3 : 0 ≤ x4_1
    ·rw [if_pos c3] at H
     have c3b0 : decide (0 ≤ x4_1) = true := decide_eq_true c3
     clear c3
     by_cases c4 : x3_1.length < 8796093022208
     ·rw [if_pos c4] at H
      have LMc4 := Aside0.mk c4
      clear c4
      obtain ⟨y382, hy382⟩ : ∃ y_ : List (S28), y_ = (x3_1 ++ [(⟨(rd_T28 l0 x4_1).f1, (rd_T28 l0 x4_1).f0⟩ : S28)]) := ⟨_, rfl⟩
      replace H : (tattingref7_Turn.l0 k1 l0 y382 (wrap64 (x4_1 + 1))) = some r := by first | (rw [hy382]; with_reducible exact H) | (have H2_ := (Option.bind_some _ _).symm.trans H; rw [hy382]; with_reducible exact H2_) | (have H2_ := (Option.bind_some _ _).symm.trans H; with_reducible exact H2_) | with_reducible exact H | (rw [hy382]; exact H) | exact H
      have Ny382 := Aside0.mk hy382
      clear hy382
      have H' := Aside0.mk H
      clear H
      try go_wp2
      have n0_ := Aside0.mk (Kd.R_drew HO_3.out)
      have n1_ := Aside0.mk (below_drew1 HB.out)
      clear HO_3
      clear HB
      have HO_3 := n0_
      have HB := n1_
      clear n0_ n1_
      have p380 : 0 ≤ (x4_1 : Int) := of_decide_eq_true (by first | (with_reducible assumption) | assumption)
      have q380 : x4_1 < (l0.length : Int) := of_decide_eq_true (by first | (with_reducible assumption) | assumption)
      obtain ⟨ad380, e380, hx380_0, hx380_1⟩ := at_T28 HR0.out x4_1 p380 q380
      have hw380_1 := hx380_1
      have hw380_0 := hx380_0
      cases e380
      replace hx380_0 := (HB.out.cell (World.block_lt_of_cell? w _ hx380_0)).trans hx380_0
      replace hx380_1 := (HB.out.cell (World.block_lt_of_cell? w _ hx380_1)).trans hx380_1
      replace p380 := eq_true p380
      replace q380 := eq_true q380
      have p381 : 0 ≤ (x4_1 : Int) := of_decide_eq_true (by first | (with_reducible assumption) | assumption)
      have q381 : x4_1 < (l0.length : Int) := of_decide_eq_true (by first | (with_reducible assumption) | assumption)
      obtain ⟨ad381, e381, hx381_0, hx381_1⟩ := at_T28 HR0.out x4_1 p381 q381
      have hw381_1 := hx381_1
      have hw381_0 := hx381_0
      obtain rfl : ad380 = ad381 := (by injection e381)
      replace hx381_0 := (HB.out.cell (World.block_lt_of_cell? w _ hx381_0)).trans hx381_0
      replace hx381_1 := (HB.out.cell (World.block_lt_of_cell? w _ hx381_1)).trans hx381_1
      replace p381 := eq_true p381
      replace q381 := eq_true q381
      refine start_ (n := 15) (S := fun w' => w'.cell? (ad380.add ((x4_1).toNat * 2)) = some (.int .i64 ((rd_T28 l0 x4_1).f0)) ∧ w'.cell? ⟨(ad380.add ((x4_1).toNat * 2)).block, (ad380.add ((x4_1).toNat * 2)).off + 1, none⟩ = some (.int .i64 ((rd_T28 l0 x4_1).f1)) ∧ w'.cell? (ad380.add ((x4_1).toNat * 2)) = some (.int .i64 ((rd_T28 l0 x4_1).f0)) ∧ w'.cell? ⟨(ad380.add ((x4_1).toNat * 2)).block, (ad380.add ((x4_1).toNat * 2)).off + 1, none⟩ = some (.int .i64 ((rd_T28 l0 x4_1).f1))) (ds := []) #[N,N,N,N,N,N,N,N,N,N,N,N,N,N,N] (by kernel_rfl) rfl rfl ⟨((HB.out.cell (World.block_lt_of_cell? w _ hw380_0)).trans hw380_0), ((HB.out.cell (World.block_lt_of_cell? w _ hw380_1)).trans hw380_1), ((HB.out.cell (World.block_lt_of_cell? w _ hw381_0)).trans hw381_0), ((HB.out.cell (World.block_lt_of_cell? w _ hw381_1)).trans hw381_1)⟩ (fun hHeld => ?_); refine with_tabW tattingref7_Turn.tab5 tattingref7_Turn.bits5 (fun HT_ HW_ => ?_)
      generalize wr.drew = w5 at HO_3 HB hx380_0 hx380_1 hx381_0 hx381_1 hHeld ⊢
      refine pure_ (i := 0) (N := some 11) (v := ?_) (a' := ?_) #[Y,N,N,N,N,N,N,N,N,N,N,N,N,N,N] rfl rfl (any_of HT_.out (by kernel_rfl)) (fun _ _ _ h => h) (Or.inl ⟨by rfl, ?_⟩) ?_ ?_; rotate_left
      ·intro w'; go_simp; with_reducible rfl
      rotate_left
      ·simp only [Act.put, sA,sB,sC, i64_w, i32_w]; rfl
      refine pure_ (i := 1) (N := some 12) (v := ?_) (a' := ?_) #[Y,Y,N,N,N,N,N,N,N,N,N,N,N,N,N] rfl rfl (any_of HT_.out (by kernel_rfl)) (fun _ _ _ h => h) (Or.inl ⟨by rfl, ?_⟩) ?_ ?_; rotate_left
      ·intro w'; go_simp; with_reducible rfl
      rotate_left
      ·simp only [Act.put, sA,sB,sC, i64_w, i32_w]; rfl
      refine pure_ (i := 2) (N := some 13) (v := ?_) (a' := ?_) #[Y,Y,Y,N,N,N,N,N,N,N,N,N,N,N,N] rfl rfl (any_of HT_.out (by kernel_rfl)) (fun _ _ _ h => h) (Or.inl ⟨by rfl, ?_⟩) ?_ ?_; rotate_left
      ·intro w'; go_simp; with_reducible rfl
      rotate_left
      ·simp only [Act.put, sA,sB,sC, i64_w, i32_w]; rfl
      refine pure_ (i := 3) (N := some 14) (v := ?_) (a' := ?_) #[Y,Y,Y,Y,N,N,N,N,N,N,N,N,N,N,N] rfl rfl (any_of HT_.out (by kernel_rfl)) (fun _ _ _ h => h) (Or.inl ⟨by rfl, ?_⟩) ?_ ?_; rotate_left
      ·intro w'; go_simp; with_reducible rfl
      rotate_left
      ·simp only [Act.put, sA,sB,sC, i64_w, i32_w]; rfl
      refine pure_ (i := 4) (N := some 15) (v := ?_) (a' := ?_) #[Y,Y,Y,Y,Y,N,N,N,N,N,N,N,N,N,N] rfl rfl (any_of HT_.out (by kernel_rfl)) (fun _ _ _ h => h) (Or.inl ⟨by rfl, ?_⟩) ?_ ?_; rotate_left
      ·intro w'; go_simp; with_reducible rfl
      rotate_left
      ·simp only [Act.put, sA,sB,sC, i64_w, i32_w]; rfl
      refine pure_ (i := 6) (N := some 17) (v := ?_) (a' := ?_) #[Y,Y,Y,Y,Y,N,Y,N,N,N,N,N,N,N,N] rfl rfl (any_of HT_.out (by kernel_rfl)) (fun _ _ _ h => h) (Or.inl ⟨by rfl, ?_⟩) ?_ ?_; rotate_left
      ·intro w'; go_simp; with_reducible rfl
      rotate_left
      ·simp only [Act.put, sA,sB,sC, i64_w, i32_w]; rfl
      refine pure_ (i := 7) (N := some 18) (v := ?_) (a' := ?_) #[Y,Y,Y,Y,Y,N,Y,Y,N,N,N,N,N,N,N] rfl rfl (any_of HT_.out (by kernel_rfl)) (fun _ _ _ h => h) (Or.inl ⟨by rfl, ?_⟩) ?_ ?_; rotate_left
      ·intro w'; go_simp; with_reducible rfl
      rotate_left
      ·simp only [Act.put, sA,sB,sC, i64_w, i32_w]; rfl
      refine pure_ (i := 8) (N := some 19) (v := ?_) (a' := ?_) #[Y,Y,Y,Y,Y,N,Y,Y,Y,N,N,N,N,N,N] rfl rfl (any_of HT_.out (by kernel_rfl)) (fun _ _ _ h => h) (Or.inl ⟨by rfl, ?_⟩) ?_ ?_; rotate_left
      ·intro w'; go_simp; with_reducible rfl
      rotate_left
      ·simp only [Act.put, sA,sB,sC, i64_w, i32_w]; rfl
      refine pure_ (i := 9) (N := some 20) (v := ?_) (a' := ?_) #[Y,Y,Y,Y,Y,N,Y,Y,Y,Y,N,N,N,N,N] rfl rfl (any_of HT_.out (by kernel_rfl)) (fun _ _ _ h => h) (Or.inl ⟨by rfl, ?_⟩) ?_ ?_; rotate_left
      ·intro w'; go_simp; with_reducible rfl
      rotate_left
      ·simp only [Act.put, sA,sB,sC, i64_w, i32_w]; rfl
      refine take_ (i := 5) (N := some 16) (v := ?_) (a' := ?_) #[Y,Y,Y,Y,Y,Y,Y,Y,Y,Y,N,N,N,N,N] rfl rfl (take_ofW HT_.out HW_.out (by kernel_rfl)) (fun _ _ _ h => h) (Or.inl ⟨by rfl, ?_⟩) hHeld ?_ ?_; rotate_left
      ·rintro w' ⟨s0, s1, s2, s3⟩; go_simp; with_reducible rfl
      rotate_left
      ·simp only [Act.put, sA,sB,sC, i64_w, i32_w]; rfl
      refine take_ (i := 10) (N := some 21) (v := ?_) (a' := ?_) #[Y,Y,Y,Y,Y,Y,Y,Y,Y,Y,Y,N,N,N,N] rfl rfl (take_ofW HT_.out HW_.out (by kernel_rfl)) (fun _ _ _ h => h) (Or.inl ⟨by rfl, ?_⟩) hHeld ?_ ?_; rotate_left
      ·rintro w' ⟨s0, s1, s2, s3⟩; go_simp; with_reducible rfl
      rotate_left
      ·simp only [Act.put, sA,sB,sC, i64_w, i32_w]; rfl
      refine pure_ (i := 11) (N := some 22) (v := ?_) (a' := ?_) #[Y,Y,Y,Y,Y,Y,Y,Y,Y,Y,Y,Y,N,N,N] rfl rfl (any_of HT_.out (by kernel_rfl)) (fun _ _ _ h => h) (Or.inl ⟨by rfl, ?_⟩) ?_ ?_; rotate_left
      ·intro w'; go_simp; with_reducible rfl
      rotate_left
      ·simp only [Act.put, sA,sB,sC, i64_w, i32_w]; rfl
      refine one_ (i := 12) (N := some 23) #[Y,Y,Y,Y,Y,Y,Y,Y,Y,Y,Y,Y,Y,N,N] rfl rfl (one_of HT_.out (by kernel_rfl)) (by decide) (fun K hK => ?_)
      refine value_ (w1 := ?_) (v := ?_) (by rfl) rfl ?_ ?_
      rotate_left 2
      ·go_simp
       constructor
       ·rfl
       ·rfl
      refine hK.out _ _ ⟨(World.cell?_alloc_lt _ _ _ (World.block_lt_of_cell? _ _ (((HB.out.cell (World.block_lt_of_cell? w _ hw380_0)).trans hw380_0)))).trans (((HB.out.cell (World.block_lt_of_cell? w _ hw380_0)).trans hw380_0)), (World.cell?_alloc_lt _ _ _ (World.block_lt_of_cell? _ _ (((HB.out.cell (World.block_lt_of_cell? w _ hw380_1)).trans hw380_1)))).trans (((HB.out.cell (World.block_lt_of_cell? w _ hw380_1)).trans hw380_1)), (World.cell?_alloc_lt _ _ _ (World.block_lt_of_cell? _ _ (((HB.out.cell (World.block_lt_of_cell? w _ hw381_0)).trans hw381_0)))).trans (((HB.out.cell (World.block_lt_of_cell? w _ hw381_0)).trans hw381_0)), (World.cell?_alloc_lt _ _ _ (World.block_lt_of_cell? _ _ (((HB.out.cell (World.block_lt_of_cell? w _ hw381_1)).trans hw381_1)))).trans (((HB.out.cell (World.block_lt_of_cell? w _ hw381_1)).trans hw381_1))⟩ (fun hHeld => ?_)
      clear hK K
      refine norm_ (a' := ?_) ?_ ?_
      rotate_left
      ·show Act.put _ (some 23) _ = _
       simp only [Act.put, sA,sB,sC, i64_w, i32_w]; rfl
      refine one_ (i := 13) (N := some 24) #[Y,Y,Y,Y,Y,Y,Y,Y,Y,Y,Y,Y,Y,Y,N] rfl rfl (one_of HT_.out (by kernel_rfl)) (by decide) (fun K hK => ?_)
      refine Kd.R_append_step k28 (w0 := w) w.heap.size (by rfl) (.tmp 11) (.tmp 23) 22 28 (.agg #[(.int .i64 0), (.int .i64 0)]) 16 rfl Try.underlying22 info28 rfl (by decide) (by omega) u3 x3_1 (⟨(rd_T28 l0 x4_1).f1, (rd_T28 l0 x4_1).f0⟩ : S28) [.int .i64 ((rd_T28 l0 x4_1).f1), .int .i64 ((rd_T28 l0 x4_1).f0)] (fun _ => True) (fun _ => False) rfl rfl ?aP (fun _ hk => hk.elim) ?aF ?aO ?aB ?aS ?aL ?_
      (case aP => exact k28_mkM _ _ _ (⟨(rd_T28 l0 x4_1).f1, (rd_T28 l0 x4_1).f0⟩ : S28))
      (case aB => exact (by repeat (first | (with_reducible first | exact HB.out | apply below_alloc | apply pw_below_drewN | apply below_drew1) | exact HB.out)))
      (case aF => exact (fun _ _ => trivial))
      (case aO => exact (by (with_reducible repeat (first | apply Kd.R_alloc | apply Kd.R_drewN | apply Kd.R_drew)); exact HO_3.out))
      (case aS => exact (below_size (by repeat (first | (with_reducible first | exact HB.out | apply below_alloc | apply pw_below_drewN | apply below_drew1) | exact HB.out))))
      (case aL => have := LMc4.out; omega)
      intro v383 w6 ho hb hg hat
      rw [← Ny382.out] at ho
      have n0_ := Aside0.mk (hb)
      have n1_ := Aside0.mk (ho)
      clear HB
      clear HO_3
      have HB := n0_
      have HO384 := n1_
      clear n0_ n1_
      clear ho hb hg hat
      refine hK.out _ _ ⟨((HB.out.cell (World.block_lt_of_cell? w _ hw380_0)).trans hw380_0), ((HB.out.cell (World.block_lt_of_cell? w _ hw380_1)).trans hw380_1), ((HB.out.cell (World.block_lt_of_cell? w _ hw381_0)).trans hw381_0), ((HB.out.cell (World.block_lt_of_cell? w _ hw381_1)).trans hw381_1)⟩ (fun hHeld => ?_)
      clear hK K
      refine norm_ (a' := ?_) ?_ ?_
      rotate_left
      ·show Act.put _ (some 24) _ = _
       simp only [Act.put, sA,sB,sC, i64_w, i32_w]; rfl
      refine pure_ (i := 14) (N := some 3) (v := ?_) (a' := ?_) #[Y,Y,Y,Y,Y,Y,Y,Y,Y,Y,Y,Y,Y,Y,Y] rfl rfl (any_of HT_.out (by kernel_rfl)) (fun _ _ _ h => h) (Or.inl ⟨by rfl, ?_⟩) ?_ ?_; rotate_left
      ·intro w'; go_simp; with_reducible rfl
      rotate_left
      ·simp only [Act.put, sA,sB,sC, i64_w, i32_w]; rfl
      refine done_ (done_of HT_.out (by kernel_rfl)) ?_
      try go_wp2
      go_roundg k1
      case measure => have := HK1.out; omega
      case rel => exact ⟨(y382), (wrap64 (x4_1 + 1)), (by first | rfl | (simp; done) | (simp [*]; done)), H', ⟨by have := HK1.out; omega⟩, ⟨by (with_reducible repeat (first | apply Kd.R_alloc | apply Kd.R_drewN | apply Kd.R_drew)); exact HO384.out⟩, ⟨by repeat (first | (with_reducible first | exact HB.out | apply below_alloc | apply pw_below_drewN | apply below_drew1) | exact HB.out)⟩⟩
     ·rw [if_neg c4] at H
      exact absurd H (by simp)
    ·rw [if_neg c3] at H
     exact absurd H (by simp)
   ·rw [if_neg c2] at H
    have c2b0 : decide (x4_1 < (l0.length : Int)) = false := decide_eq_false c2
    clear c2
    obtain rfl := Option.some.inj H
    go_wp2
    go_ret
    exact ⟨_, by first | rfl | (simp [errW_none, errW_some] <;> rfl) | (simp [*, errW_none, errW_some] <;> rfl), by (with_reducible repeat (first | apply Kd.R_alloc | apply Kd.R_drewN | apply Kd.R_drew)); exact HO_3.out, by repeat (first | (with_reducible first | exact HB.out | apply below_alloc | apply pw_below_drewN | apply below_drew1) | exact HB.out)⟩

end Go.Proofs.Ytdegajidkboknaa.PCanonAny
