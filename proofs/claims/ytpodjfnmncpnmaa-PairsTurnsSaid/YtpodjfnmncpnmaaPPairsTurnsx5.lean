/- What the given program's functions come to, each a Lean function and the walk that shows it: no condition beside those that each theorem names. -/
import Derived.Test.YtpodjfnmncpnmaaPPairsTurnsx0
import Derived.Test.YtpodjfnmncpnmaaPPairsTurnsx2
import Derived.Test.YtpodjfnmncpnmaaPPairsTurnsx3
import Derived.Test.YtpodjfnmncpnmaaPPairsTurnsx4
namespace Go.Proofs.Ytpodjfnmncpnmaa.PPairsTurns
open Go.RowKit Go.Proofs.YtpodjfnmncpnmaaW.PrintWords Go.Proofs.YtpodjfnmncpnmaaW.PrintLast Go.Proofs.YtpodjfnmncpnmaaW.PrintMore
attribute [local go_sem] max2_int min2_int max_two min_two max_three min_three max_four min_four   -- for this text's walks alone
set_option linter.unusedVariables false
set_option linter.unusedSimpArgs false

/-! ### tattingref7_Move: function 21 -/
def tattingref7_Move.l0 : Nat → List (S24) → Int → Int → List (S24) → Int → Option ((List (S24)))
 | 0, _, _, _, _, _ => none
 | k + 1, x0, x1, x2, x7, x8 => if x8 < (x0.length : Int) then (if 0 ≤ x8 then (if x7.length < 8796093022208 then (tattingref7_Move.l0 k x0 x1 x2 (x7 ++ [(⟨wrap64 (((rd_T24 x0 x8).f0) + x1), wrap64 (((rd_T24 x0 x8).f1) + x2)⟩ : S24)]) (wrap64 (x8 + 1))) else (none)) else (none)) else (some x7)
def tattingref7_Move.f (k : Nat) (l0 : List (S24)) (a1 : Int) (a2 : Int) : Option ((List (S24))) := tattingref7_Move.l0 k l0 a1 a2 ([] : List (S24)) 0
theorem tattingref7_Move.mono_l : ∀ k, (∀ y0 y1 y2 y3 y4, LeO (tattingref7_Move.l0 k y0 y1 y2 y3 y4) (tattingref7_Move.l0 (k + 1) y0 y1 y2 y3 y4))
 | 0 => fun _ _ _ _ _ r h => by simp [tattingref7_Move.l0] at h
 | k + 1 => by
  have ih0 := tattingref7_Move.mono_l k
  ·intro y0 y1 y2 y3 y4
   unfold tattingref7_Move.l0
   repeat' first
   | (with_reducible exact ih0 _ _ _ _ _)
   | (with_reducible exact LeO.refl _)
   | (with_reducible exact LeO.none _)
   | (with_reducible refine LeO.ite ?_ ?_)
   | (with_reducible refine LeO.bind ?_ (fun _ => ?_))
   | exact ih0 _ _ _ _ _
   | exact LeO.none _
   | refine LeO.ite ?_ ?_
   | refine LeO.bind ?_ (fun _ => ?_)
theorem tattingref7_Move.mono : ∀ a0 a1 a2 k, LeO (tattingref7_Move.f k a0 a1 a2) (tattingref7_Move.f (k + 1) a0 a1 a2) := by
 intro a0 a1 a2 k
 have ih0 := tattingref7_Move.mono_l k
 unfold tattingref7_Move.f
 repeat' first
   | (with_reducible exact ih0 _ _ _ _ _)
   | (with_reducible exact LeO.refl _)
   | (with_reducible exact LeO.none _)
   | (with_reducible refine LeO.ite ?_ ?_)
   | (with_reducible refine LeO.bind ?_ (fun _ => ?_))
   | exact ih0 _ _ _ _ _
   | exact LeO.none _
   | refine LeO.ite ?_ ?_
   | refine LeO.bind ?_ (fun _ => ?_)
def tattingref7_Move.T5 : Bool × List (List Nat × List Nat) := (true, [([], []), ([], []), ([], []), ([1, 2], [1, 2]), ([3], [3]), ([4], [4]), ([], []), ([5, 6], [5, 6]), ([], []), ([], []), ([8, 9], [8, 9]), ([10], [10]), ([11], [11]), ([], []), ([12, 13], [12, 13]), ([7, 14], [7, 14]), ([15], [15]), ([0, 16], [0, 16]), ([17, 17, 0, 1, 2, 3, 4, 5, 6, 7, 8, 9, 10, 11, 12, 13, 14, 15, 16, 17], [0, 17])])
def tattingref7_Move.B5 : List Nat := [0, 0, 0, 6, 14, 30, 0, 126, 0, 0, 768, 1792, 3840, 0, 16128, 32766, 65534, 131071, 262143]
theorem tattingref7_Move.tab5 : rtab .any (opsOf Try.f21 5) = tattingref7_Move.T5 := by kernel_rfl
theorem tattingref7_Move.bits5 : waitsOk tattingref7_Move.T5.2 tattingref7_Move.B5 = true := by kernel_rfl
set_option maxHeartbeats 8000000 in
set_option maxRecDepth 100000 in
theorem tattingref7_Move.calls (k : Nat) (A0 : Option Addr) (c0 : Nat) (l0 : List (S24)) (a1 : Int) (a2 : Int) (r : List (S24)) (w : World) (hr0 : Kd.C k24 w A0 l0.length l0) (hc0 : l0.length ≤ c0) (h : tattingref7_Move.f k l0 a1 a2 = some r) :
  Calls Try.prog 21 #[.slice A0 l0.length c0, .int .i64 a1, .int .i64 a2] w fun e w' => ∃ v0_ : Value, e = .returned (v0_) ∧ Kd.R k24 24 w' w.heap.size (fun _ => True) v0_ r ∧ Below w.heap.size w w' := by
 have hu24 := Try.underlying24
 have HR0 := Aside0.mk hr0
 have HC0 := Aside0.mk hc0
 clear hr0 hc0
 have HB := Aside0.mk (Below.refl w.heap.size w)
 have H : (tattingref7_Move.l0 k l0 a1 a2 ([] : List (S24)) 0) = some r := h
 clear h
 have H' := Aside0.mk H
 clear H
 go_enter Try.func21, Try.ntmps21
 go_wp2
 go_loopg [7, 8] k (fun kq v7 v8 w' => ∃ (x7_1 : List (S24)) (x8_1 : Int), v8 = .int .i64 x8_1 ∧ Aside0 (tattingref7_Move.l0 kq l0 a1 a2 x7_1 x8_1 = some r) ∧ Aside0 (kq ≤ k) ∧ Aside0 (Kd.R k24 24 w' w.heap.size (fun _ => True) v7 x7_1) ∧ Aside0 (Below w.heap.size w w'))
 case atStart => exact ⟨(([] : List (S24))), (0), (by first | rfl | (simp; done) | (simp [*]; done)), H', ⟨Nat.le_refl _⟩, ⟨by first | exact Kd.R_nil _ _ _ _ _ | exact Kd.N_nil _ _ _ _ _ | exact Kd.V_nil _ _ _ _ _ | exact Kd.Q_nil _ _ _ _ _ | exact Kd.S_nil _ _ _ _ _⟩, ⟨by repeat (first | (with_reducible first | exact HB.out | apply below_alloc | apply pw_below_drewN | apply below_drew1) | exact HB.out)⟩⟩
 case round =>
  clear H'
  try clear c2
  try clear p2
  obtain ⟨x7_1, x8_1, rfl, HA, HK1, HO_7, HB⟩ := hrel
  cases gk with
  | zero => exact absurd HA.out (by simp [tattingref7_Move.l0])
  | succ k1 =>
   have H := HA.out
   clear HA
   simp only [tattingref7_Move.l0] at H
   by_cases c4 : x8_1 < (l0.length : Int)
   ·rw [if_pos c4] at H
    have c4b0 : decide (x8_1 < (l0.length : Int)) = true := decide_eq_true c4
    clear c4
    by_cases c5 : 0 ≤ x8_1
    ·rw [if_pos c5] at H
     have c5b0 : decide (0 ≤ x8_1) = true := decide_eq_true c5
     clear c5
     by_cases c6 : x7_1.length < 8796093022208
     ·rw [if_pos c6] at H
      have LMc6 := Aside0.mk c6
      clear c6
      obtain ⟨y178, hy178⟩ : ∃ y_ : List (S24), y_ = (x7_1 ++ [(⟨wrap64 (((rd_T24 l0 x8_1).f0) + a1), wrap64 (((rd_T24 l0 x8_1).f1) + a2)⟩ : S24)]) := ⟨_, rfl⟩
      replace H : (tattingref7_Move.l0 k1 l0 a1 a2 y178 (wrap64 (x8_1 + 1))) = some r := by first | (rw [hy178]; with_reducible exact H) | (have H2_ := (Option.bind_some _ _).symm.trans H; rw [hy178]; with_reducible exact H2_) | (have H2_ := (Option.bind_some _ _).symm.trans H; with_reducible exact H2_) | with_reducible exact H | (rw [hy178]; exact H) | exact H
      have Ny178 := Aside0.mk hy178
      clear hy178
      have H' := Aside0.mk H
      clear H
      try go_wp2
      have n0_ := Aside0.mk (Kd.R_drew HO_7.out)
      have n1_ := Aside0.mk (below_drew1 HB.out)
      clear HO_7
      clear HB
      have HO_7 := n0_
      have HB := n1_
      clear n0_ n1_
      have p176 : 0 ≤ (x8_1 : Int) := of_decide_eq_true (by first | (with_reducible assumption) | assumption)
      have q176 : x8_1 < (l0.length : Int) := of_decide_eq_true (by first | (with_reducible assumption) | assumption)
      obtain ⟨ad176, e176, hx176_0, hx176_1⟩ := at_T24 HR0.out x8_1 p176 q176
      have hw176_1 := hx176_1
      have hw176_0 := hx176_0
      cases e176
      replace hx176_0 := (HB.out.cell (World.block_lt_of_cell? w _ hx176_0)).trans hx176_0
      replace hx176_1 := (HB.out.cell (World.block_lt_of_cell? w _ hx176_1)).trans hx176_1
      replace p176 := eq_true p176
      replace q176 := eq_true q176
      have p177 : 0 ≤ (x8_1 : Int) := of_decide_eq_true (by first | (with_reducible assumption) | assumption)
      have q177 : x8_1 < (l0.length : Int) := of_decide_eq_true (by first | (with_reducible assumption) | assumption)
      obtain ⟨ad177, e177, hx177_0, hx177_1⟩ := at_T24 HR0.out x8_1 p177 q177
      have hw177_1 := hx177_1
      have hw177_0 := hx177_0
      obtain rfl : ad176 = ad177 := (by injection e177)
      replace hx177_0 := (HB.out.cell (World.block_lt_of_cell? w _ hx177_0)).trans hx177_0
      replace hx177_1 := (HB.out.cell (World.block_lt_of_cell? w _ hx177_1)).trans hx177_1
      replace p177 := eq_true p177
      replace q177 := eq_true q177
      refine start_ (n := 19) (S := fun w' => w'.cell? (ad176.add ((x8_1).toNat * 2)) = some (.int .i64 ((rd_T24 l0 x8_1).f0)) ∧ w'.cell? ⟨(ad176.add ((x8_1).toNat * 2)).block, (ad176.add ((x8_1).toNat * 2)).off + 1, none⟩ = some (.int .i64 ((rd_T24 l0 x8_1).f1)) ∧ w'.cell? (ad176.add ((x8_1).toNat * 2)) = some (.int .i64 ((rd_T24 l0 x8_1).f0)) ∧ w'.cell? ⟨(ad176.add ((x8_1).toNat * 2)).block, (ad176.add ((x8_1).toNat * 2)).off + 1, none⟩ = some (.int .i64 ((rd_T24 l0 x8_1).f1))) (ds := []) #[N,N,N,N,N,N,N,N,N,N,N,N,N,N,N,N,N,N,N] (by kernel_rfl) rfl rfl ⟨((HB.out.cell (World.block_lt_of_cell? w _ hw176_0)).trans hw176_0), ((HB.out.cell (World.block_lt_of_cell? w _ hw176_1)).trans hw176_1), ((HB.out.cell (World.block_lt_of_cell? w _ hw177_0)).trans hw177_0), ((HB.out.cell (World.block_lt_of_cell? w _ hw177_1)).trans hw177_1)⟩ (fun hHeld => ?_); refine with_tabW tattingref7_Move.tab5 tattingref7_Move.bits5 (fun HT_ HW_ => ?_)
      generalize wr.drew = w7 at HO_7 HB hx176_0 hx176_1 hx177_0 hx177_1 hHeld ⊢
      refine pure_ (i := 0) (N := some 15) (v := ?_) (a' := ?_) #[Y,N,N,N,N,N,N,N,N,N,N,N,N,N,N,N,N,N,N] rfl rfl (any_of HT_.out (by kernel_rfl)) (fun _ _ _ h => h) (Or.inl ⟨by rfl, ?_⟩) ?_ ?_; rotate_left
      ·intro w'; go_simp; with_reducible rfl
      rotate_left
      ·simp only [Act.put, sA,sB,sC, i64_w, i32_w]; rfl
      refine pure_ (i := 1) (N := some 16) (v := ?_) (a' := ?_) #[Y,Y,N,N,N,N,N,N,N,N,N,N,N,N,N,N,N,N,N] rfl rfl (any_of HT_.out (by kernel_rfl)) (fun _ _ _ h => h) (Or.inl ⟨by rfl, ?_⟩) ?_ ?_; rotate_left
      ·intro w'; go_simp; with_reducible rfl
      rotate_left
      ·simp only [Act.put, sA,sB,sC, i64_w, i32_w]; rfl
      refine pure_ (i := 2) (N := some 17) (v := ?_) (a' := ?_) #[Y,Y,Y,N,N,N,N,N,N,N,N,N,N,N,N,N,N,N,N] rfl rfl (any_of HT_.out (by kernel_rfl)) (fun _ _ _ h => h) (Or.inl ⟨by rfl, ?_⟩) ?_ ?_; rotate_left
      ·intro w'; go_simp; with_reducible rfl
      rotate_left
      ·simp only [Act.put, sA,sB,sC, i64_w, i32_w]; rfl
      refine pure_ (i := 3) (N := some 18) (v := ?_) (a' := ?_) #[Y,Y,Y,Y,N,N,N,N,N,N,N,N,N,N,N,N,N,N,N] rfl rfl (any_of HT_.out (by kernel_rfl)) (fun _ _ _ h => h) (Or.inl ⟨by rfl, ?_⟩) ?_ ?_; rotate_left
      ·intro w'; go_simp; with_reducible rfl
      rotate_left
      ·simp only [Act.put, sA,sB,sC, i64_w, i32_w]; rfl
      refine pure_ (i := 4) (N := some 19) (v := ?_) (a' := ?_) #[Y,Y,Y,Y,Y,N,N,N,N,N,N,N,N,N,N,N,N,N,N] rfl rfl (any_of HT_.out (by kernel_rfl)) (fun _ _ _ h => h) (Or.inl ⟨by rfl, ?_⟩) ?_ ?_; rotate_left
      ·intro w'; go_simp; with_reducible rfl
      rotate_left
      ·simp only [Act.put, sA,sB,sC, i64_w, i32_w]; rfl
      refine pure_ (i := 6) (N := some 21) (v := ?_) (a' := ?_) #[Y,Y,Y,Y,Y,N,Y,N,N,N,N,N,N,N,N,N,N,N,N] rfl rfl (any_of HT_.out (by kernel_rfl)) (fun _ _ _ h => h) (Or.inl ⟨by rfl, ?_⟩) ?_ ?_; rotate_left
      ·intro w'; go_simp; with_reducible rfl
      rotate_left
      ·simp only [Act.put, sA,sB,sC, i64_w, i32_w]; rfl
      refine pure_ (i := 8) (N := some 23) (v := ?_) (a' := ?_) #[Y,Y,Y,Y,Y,N,Y,N,Y,N,N,N,N,N,N,N,N,N,N] rfl rfl (any_of HT_.out (by kernel_rfl)) (fun _ _ _ h => h) (Or.inl ⟨by rfl, ?_⟩) ?_ ?_; rotate_left
      ·intro w'; go_simp; with_reducible rfl
      rotate_left
      ·simp only [Act.put, sA,sB,sC, i64_w, i32_w]; rfl
      refine pure_ (i := 9) (N := some 24) (v := ?_) (a' := ?_) #[Y,Y,Y,Y,Y,N,Y,N,Y,Y,N,N,N,N,N,N,N,N,N] rfl rfl (any_of HT_.out (by kernel_rfl)) (fun _ _ _ h => h) (Or.inl ⟨by rfl, ?_⟩) ?_ ?_; rotate_left
      ·intro w'; go_simp; with_reducible rfl
      rotate_left
      ·simp only [Act.put, sA,sB,sC, i64_w, i32_w]; rfl
      refine pure_ (i := 10) (N := some 25) (v := ?_) (a' := ?_) #[Y,Y,Y,Y,Y,N,Y,N,Y,Y,Y,N,N,N,N,N,N,N,N] rfl rfl (any_of HT_.out (by kernel_rfl)) (fun _ _ _ h => h) (Or.inl ⟨by rfl, ?_⟩) ?_ ?_; rotate_left
      ·intro w'; go_simp; with_reducible rfl
      rotate_left
      ·simp only [Act.put, sA,sB,sC, i64_w, i32_w]; rfl
      refine pure_ (i := 11) (N := some 26) (v := ?_) (a' := ?_) #[Y,Y,Y,Y,Y,N,Y,N,Y,Y,Y,Y,N,N,N,N,N,N,N] rfl rfl (any_of HT_.out (by kernel_rfl)) (fun _ _ _ h => h) (Or.inl ⟨by rfl, ?_⟩) ?_ ?_; rotate_left
      ·intro w'; go_simp; with_reducible rfl
      rotate_left
      ·simp only [Act.put, sA,sB,sC, i64_w, i32_w]; rfl
      refine pure_ (i := 13) (N := some 28) (v := ?_) (a' := ?_) #[Y,Y,Y,Y,Y,N,Y,N,Y,Y,Y,Y,N,Y,N,N,N,N,N] rfl rfl (any_of HT_.out (by kernel_rfl)) (fun _ _ _ h => h) (Or.inl ⟨by rfl, ?_⟩) ?_ ?_; rotate_left
      ·intro w'; go_simp; with_reducible rfl
      rotate_left
      ·simp only [Act.put, sA,sB,sC, i64_w, i32_w]; rfl
      refine take_ (i := 5) (N := some 20) (v := ?_) (a' := ?_) #[Y,Y,Y,Y,Y,Y,Y,N,Y,Y,Y,Y,N,Y,N,N,N,N,N] rfl rfl (take_ofW HT_.out HW_.out (by kernel_rfl)) (fun _ _ _ h => h) (Or.inl ⟨by rfl, ?_⟩) hHeld ?_ ?_; rotate_left
      ·rintro w' ⟨s0, s1, s2, s3⟩; go_simp; with_reducible rfl
      rotate_left
      ·simp only [Act.put, sA,sB,sC, i64_w, i32_w]; rfl
      refine pure_ (i := 7) (N := some 22) (v := ?_) (a' := ?_) #[Y,Y,Y,Y,Y,Y,Y,Y,Y,Y,Y,Y,N,Y,N,N,N,N,N] rfl rfl (any_of HT_.out (by kernel_rfl)) (fun _ _ _ h => h) (Or.inl ⟨by rfl, ?_⟩) ?_ ?_; rotate_left
      ·intro w'; go_simp; with_reducible rfl
      rotate_left
      ·simp only [Act.put, sA,sB,sC, i64_w, i32_w]; rfl
      refine take_ (i := 12) (N := some 27) (v := ?_) (a' := ?_) #[Y,Y,Y,Y,Y,Y,Y,Y,Y,Y,Y,Y,Y,Y,N,N,N,N,N] rfl rfl (take_ofW HT_.out HW_.out (by kernel_rfl)) (fun _ _ _ h => h) (Or.inl ⟨by rfl, ?_⟩) hHeld ?_ ?_; rotate_left
      ·rintro w' ⟨s0, s1, s2, s3⟩; go_simp; with_reducible rfl
      rotate_left
      ·simp only [Act.put, sA,sB,sC, i64_w, i32_w]; rfl
      refine pure_ (i := 14) (N := some 29) (v := ?_) (a' := ?_) #[Y,Y,Y,Y,Y,Y,Y,Y,Y,Y,Y,Y,Y,Y,Y,N,N,N,N] rfl rfl (any_of HT_.out (by kernel_rfl)) (fun _ _ _ h => h) (Or.inl ⟨by rfl, ?_⟩) ?_ ?_; rotate_left
      ·intro w'; go_simp; with_reducible rfl
      rotate_left
      ·simp only [Act.put, sA,sB,sC, i64_w, i32_w]; rfl
      refine pure_ (i := 15) (N := some 30) (v := ?_) (a' := ?_) #[Y,Y,Y,Y,Y,Y,Y,Y,Y,Y,Y,Y,Y,Y,Y,Y,N,N,N] rfl rfl (any_of HT_.out (by kernel_rfl)) (fun _ _ _ h => h) (Or.inl ⟨by rfl, ?_⟩) ?_ ?_; rotate_left
      ·intro w'; go_simp; with_reducible rfl
      rotate_left
      ·simp only [Act.put, sA,sB,sC, i64_w, i32_w]; rfl
      refine one_ (i := 16) (N := some 31) #[Y,Y,Y,Y,Y,Y,Y,Y,Y,Y,Y,Y,Y,Y,Y,Y,Y,N,N] rfl rfl (one_of HT_.out (by kernel_rfl)) (by decide) (fun K hK => ?_)
      refine value_ (w1 := ?_) (v := ?_) (by rfl) rfl ?_ ?_
      rotate_left 2
      ·go_simp
       constructor
       ·rfl
       ·rfl
      refine hK.out _ _ ⟨(World.cell?_alloc_lt _ _ _ (World.block_lt_of_cell? _ _ (((HB.out.cell (World.block_lt_of_cell? w _ hw176_0)).trans hw176_0)))).trans (((HB.out.cell (World.block_lt_of_cell? w _ hw176_0)).trans hw176_0)), (World.cell?_alloc_lt _ _ _ (World.block_lt_of_cell? _ _ (((HB.out.cell (World.block_lt_of_cell? w _ hw176_1)).trans hw176_1)))).trans (((HB.out.cell (World.block_lt_of_cell? w _ hw176_1)).trans hw176_1)), (World.cell?_alloc_lt _ _ _ (World.block_lt_of_cell? _ _ (((HB.out.cell (World.block_lt_of_cell? w _ hw177_0)).trans hw177_0)))).trans (((HB.out.cell (World.block_lt_of_cell? w _ hw177_0)).trans hw177_0)), (World.cell?_alloc_lt _ _ _ (World.block_lt_of_cell? _ _ (((HB.out.cell (World.block_lt_of_cell? w _ hw177_1)).trans hw177_1)))).trans (((HB.out.cell (World.block_lt_of_cell? w _ hw177_1)).trans hw177_1))⟩ (fun hHeld => ?_)
      clear hK K
      refine norm_ (a' := ?_) ?_ ?_
      rotate_left
      ·show Act.put _ (some 31) _ = _
       simp only [Act.put, sA,sB,sC, i64_w, i32_w]; rfl
      refine one_ (i := 17) (N := some 32) #[Y,Y,Y,Y,Y,Y,Y,Y,Y,Y,Y,Y,Y,Y,Y,Y,Y,Y,N] rfl rfl (one_of HT_.out (by kernel_rfl)) (by decide) (fun K hK => ?_)
      refine Kd.R_append_step k24 (w0 := w) w.heap.size (by rfl) (.tmp 15) (.tmp 31) 25 24 (.agg #[(.int .i64 0), (.int .i64 0)]) 16 rfl Try.underlying25 info24 rfl (by decide) (by omega) u7 x7_1 (⟨wrap64 (((rd_T24 l0 x8_1).f0) + a1), wrap64 (((rd_T24 l0 x8_1).f1) + a2)⟩ : S24) [.int .i64 (wrap64 (((rd_T24 l0 x8_1).f0) + a1)), .int .i64 (wrap64 (((rd_T24 l0 x8_1).f1) + a2))] (fun _ => True) (fun _ => False) rfl rfl ?aP (fun _ hk => hk.elim) ?aF ?aO ?aB ?aS ?aL ?_
      (case aP => exact k24_mkM _ _ _ (⟨wrap64 (((rd_T24 l0 x8_1).f0) + a1), wrap64 (((rd_T24 l0 x8_1).f1) + a2)⟩ : S24))
      (case aB => exact (by repeat (first | (with_reducible first | exact HB.out | apply below_alloc | apply pw_below_drewN | apply below_drew1) | exact HB.out)))
      (case aF => exact (fun _ _ => trivial))
      (case aO => exact (by (with_reducible repeat (first | apply Kd.R_alloc | apply Kd.R_drewN | apply Kd.R_drew)); exact HO_7.out))
      (case aS => exact (below_size (by repeat (first | (with_reducible first | exact HB.out | apply below_alloc | apply pw_below_drewN | apply below_drew1) | exact HB.out))))
      (case aL => have := LMc6.out; omega)
      intro v179 w8 ho hb hg hat
      rw [← Ny178.out] at ho
      have n0_ := Aside0.mk (hb)
      have n1_ := Aside0.mk (ho)
      clear HB
      clear HO_7
      have HB := n0_
      have HO180 := n1_
      clear n0_ n1_
      clear ho hb hg hat
      refine hK.out _ _ ⟨((HB.out.cell (World.block_lt_of_cell? w _ hw176_0)).trans hw176_0), ((HB.out.cell (World.block_lt_of_cell? w _ hw176_1)).trans hw176_1), ((HB.out.cell (World.block_lt_of_cell? w _ hw177_0)).trans hw177_0), ((HB.out.cell (World.block_lt_of_cell? w _ hw177_1)).trans hw177_1)⟩ (fun hHeld => ?_)
      clear hK K
      refine norm_ (a' := ?_) ?_ ?_
      rotate_left
      ·show Act.put _ (some 32) _ = _
       simp only [Act.put, sA,sB,sC, i64_w, i32_w]; rfl
      refine pure_ (i := 18) (N := some 7) (v := ?_) (a' := ?_) #[Y,Y,Y,Y,Y,Y,Y,Y,Y,Y,Y,Y,Y,Y,Y,Y,Y,Y,Y] rfl rfl (any_of HT_.out (by kernel_rfl)) (fun _ _ _ h => h) (Or.inl ⟨by rfl, ?_⟩) ?_ ?_; rotate_left
      ·intro w'; go_simp; with_reducible rfl
      rotate_left
      ·simp only [Act.put, sA,sB,sC, i64_w, i32_w]; rfl
      refine done_ (done_of HT_.out (by kernel_rfl)) ?_
      try go_wp2
      go_roundg k1
      case measure => have := HK1.out; omega
      case rel => exact ⟨(y178), (wrap64 (x8_1 + 1)), (by first | rfl | (simp; done) | (simp [*]; done)), H', ⟨by have := HK1.out; omega⟩, ⟨by (with_reducible repeat (first | apply Kd.R_alloc | apply Kd.R_drewN | apply Kd.R_drew)); exact HO180.out⟩, ⟨by repeat (first | (with_reducible first | exact HB.out | apply below_alloc | apply pw_below_drewN | apply below_drew1) | exact HB.out)⟩⟩
     ·rw [if_neg c6] at H
      exact absurd H (by simp)
    ·rw [if_neg c5] at H
     exact absurd H (by simp)
   ·rw [if_neg c4] at H
    have c4b0 : decide (x8_1 < (l0.length : Int)) = false := decide_eq_false c4
    clear c4
    obtain rfl := Option.some.inj H
    go_wp2
    go_ret
    exact ⟨_, by first | rfl | (simp [errW_none, errW_some] <;> rfl) | (simp [*, errW_none, errW_some] <;> rfl), by (with_reducible repeat (first | apply Kd.R_alloc | apply Kd.R_drewN | apply Kd.R_drew)); exact HO_7.out, by repeat (first | (with_reducible first | exact HB.out | apply below_alloc | apply pw_below_drewN | apply below_drew1) | exact HB.out)⟩

/-! ### tattinglaw7_PairsTurns: function 7 -/
mutual
def tattinglaw7_PairsTurns.j0 : Nat → List Int → List Int → List (S24) → Int → Bool → Option (Bool)
 | 0, _, _, _, _, _ => none
 | k + 1, x0, x1, x2, x3, x28 => if x28 = true then (some true) else ((pairs_Turn.f k x2).bind fun t182 => ((pairs_Move.f k x2 (Int.tmod (wrap64 (x3)) 10) (wrap64 ((Int.tmod (wrap64 (x3)) 10) + 1))).bind fun t185 => (if 0 ≤ (Int.tmod (wrap64 (x3)) 10) then (if (Int.tmod (wrap64 (x3)) 10 : Int).toNat ≤ 35184372088832 then ((some (List.replicate (Int.tmod (wrap64 (x3)) 10 : Int).toNat 0 : List Int)).bind fun y188 => (if y188.length + x0.length < 17592186044416 then ((some (y188 ++ x0 : List Int)).bind fun y191 => (if 0 ≤ (wrap64 ((Int.tmod (wrap64 (x3)) 10) + 1)) then (if (wrap64 ((Int.tmod (wrap64 (x3)) 10) + 1) : Int).toNat ≤ 35184372088832 then ((some (List.replicate (wrap64 ((Int.tmod (wrap64 (x3)) 10) + 1) : Int).toNat 0 : List Int)).bind fun y194 => (if y194.length + x1.length < 17592186044416 then ((some (y194 ++ x1 : List Int)).bind fun y197 => ((pairs_Turn.f k t182).bind fun t200 => ((tattingref1_SamePairs.f k t200 x2).bind fun t203 => (if t203 = true then ((tattingref7_Turn.f k x2).bind fun t204 => ((tattingref1_SamePairs.f k t182 t204).bind fun t207 => (if t207 = true then ((tattingref7_Move.f k x2 (Int.tmod (wrap64 (x3)) 10) (wrap64 ((Int.tmod (wrap64 (x3)) 10) + 1))).bind fun t208 => ((tattingref1_SamePairs.f k t185 t208).bind fun t211 => (tattinglaw7_PairsTurns.j1 k x0 x1 x2 t182 t185 y191 y197 (!t211)))) else (tattinglaw7_PairsTurns.j1 k x0 x1 x2 t182 t185 y191 y197 true)))) else (tattinglaw7_PairsTurns.j1 k x0 x1 x2 t182 t185 y191 y197 true))))) else (none))) else (none)) else (none))) else (none))) else (none)) else (none))))
def tattinglaw7_PairsTurns.j1 : Nat → List Int → List Int → List (S24) → List (S24) → List (S24) → List Int → List Int → Bool → Option (Bool)
 | 0, _, _, _, _, _, _, _, _ => none
 | k + 1, x0, x1, x2, x10, x11, x12, x13, x69 => if x69 = true then (some false) else ((pairs_Good.f k x1 x0 x10).bind fun t212 => ((pairs_Good.f k x0 x1 x2).bind fun t213 => (if (t212 == t213) = true then ((pairs_Good.f k x0 x1 x2).bind fun t214 => (if t214 = true then ((pairs_Good.f k x12 x13 x11).bind fun t215 => (some t215)) else (some true))) else (some false))))
end
def tattinglaw7_PairsTurns.f (k : Nat) (l0 : List Int) (l1 : List Int) (l2 : List (S24)) (a3 : Int) : Option (Bool) := (tattinglaw7_awake.f k).bind fun t181 => (if t181 = true then (if (l0.length : Int) > 30 then (tattinglaw7_PairsTurns.j0 k l0 l1 l2 a3 true) else (if (l1.length : Int) > 30 then (tattinglaw7_PairsTurns.j0 k l0 l1 l2 a3 true) else (tattinglaw7_PairsTurns.j0 k l0 l1 l2 a3 (decide ((l2.length : Int) > 30))))) else (some false))
theorem tattinglaw7_PairsTurns.mono_l : ∀ k, (∀ y0 y1 y2 y3 y4, LeO (tattinglaw7_PairsTurns.j0 k y0 y1 y2 y3 y4) (tattinglaw7_PairsTurns.j0 (k + 1) y0 y1 y2 y3 y4)) ∧ (∀ y0 y1 y2 y3 y4 y5 y6 y7, LeO (tattinglaw7_PairsTurns.j1 k y0 y1 y2 y3 y4 y5 y6 y7) (tattinglaw7_PairsTurns.j1 (k + 1) y0 y1 y2 y3 y4 y5 y6 y7))
 | 0 => ⟨fun _ _ _ _ _ r h => by simp [tattinglaw7_PairsTurns.j0] at h, fun _ _ _ _ _ _ _ _ r h => by simp [tattinglaw7_PairsTurns.j1] at h⟩
 | k + 1 => by
  obtain ⟨ih0, ih1⟩ := tattinglaw7_PairsTurns.mono_l k
  refine ⟨?_, ?_⟩
  ·intro y0 y1 y2 y3 y4
   unfold tattinglaw7_PairsTurns.j0
   repeat' first
   | (with_reducible exact ih0 _ _ _ _ _)
   | (with_reducible exact ih1 _ _ _ _ _ _ _ _)
   | (with_reducible exact pairs_Good.mono _ _ _ _)
   | (with_reducible exact pairs_Move.mono _ _ _ _)
   | (with_reducible exact pairs_Turn.mono _ _)
   | (with_reducible exact tattinglaw7_awake.mono _)
   | (with_reducible exact tattingref1_SamePairs.mono _ _ _)
   | (with_reducible exact tattingref7_Move.mono _ _ _ _)
   | (with_reducible exact tattingref7_Turn.mono _ _)
   | (with_reducible exact LeO.refl _)
   | (with_reducible exact LeO.none _)
   | (with_reducible refine LeO.ite ?_ ?_)
   | (with_reducible refine LeO.bind ?_ (fun _ => ?_))
   | exact ih0 _ _ _ _ _
   | exact ih1 _ _ _ _ _ _ _ _
   | exact pairs_Good.mono _ _ _ _
   | exact pairs_Move.mono _ _ _ _
   | exact pairs_Turn.mono _ _
   | exact tattinglaw7_awake.mono _
   | exact tattingref1_SamePairs.mono _ _ _
   | exact tattingref7_Move.mono _ _ _ _
   | exact tattingref7_Turn.mono _ _
   | exact LeO.none _
   | refine LeO.ite ?_ ?_
   | refine LeO.bind ?_ (fun _ => ?_)
  ·intro y0 y1 y2 y3 y4 y5 y6 y7
   unfold tattinglaw7_PairsTurns.j1
   repeat' first
   | (with_reducible exact ih0 _ _ _ _ _)
   | (with_reducible exact ih1 _ _ _ _ _ _ _ _)
   | (with_reducible exact pairs_Good.mono _ _ _ _)
   | (with_reducible exact pairs_Move.mono _ _ _ _)
   | (with_reducible exact pairs_Turn.mono _ _)
   | (with_reducible exact tattinglaw7_awake.mono _)
   | (with_reducible exact tattingref1_SamePairs.mono _ _ _)
   | (with_reducible exact tattingref7_Move.mono _ _ _ _)
   | (with_reducible exact tattingref7_Turn.mono _ _)
   | (with_reducible exact LeO.refl _)
   | (with_reducible exact LeO.none _)
   | (with_reducible refine LeO.ite ?_ ?_)
   | (with_reducible refine LeO.bind ?_ (fun _ => ?_))
   | exact ih0 _ _ _ _ _
   | exact ih1 _ _ _ _ _ _ _ _
   | exact pairs_Good.mono _ _ _ _
   | exact pairs_Move.mono _ _ _ _
   | exact pairs_Turn.mono _ _
   | exact tattinglaw7_awake.mono _
   | exact tattingref1_SamePairs.mono _ _ _
   | exact tattingref7_Move.mono _ _ _ _
   | exact tattingref7_Turn.mono _ _
   | exact LeO.none _
   | refine LeO.ite ?_ ?_
   | refine LeO.bind ?_ (fun _ => ?_)
theorem tattinglaw7_PairsTurns.mono : ∀ a0 a1 a2 a3 k, LeO (tattinglaw7_PairsTurns.f k a0 a1 a2 a3) (tattinglaw7_PairsTurns.f (k + 1) a0 a1 a2 a3) := by
 intro a0 a1 a2 a3 k
 obtain ⟨ih0, ih1⟩ := tattinglaw7_PairsTurns.mono_l k
 unfold tattinglaw7_PairsTurns.f
 repeat' first
   | (with_reducible exact ih0 _ _ _ _ _)
   | (with_reducible exact ih1 _ _ _ _ _ _ _ _)
   | (with_reducible exact pairs_Good.mono _ _ _ _)
   | (with_reducible exact pairs_Move.mono _ _ _ _)
   | (with_reducible exact pairs_Turn.mono _ _)
   | (with_reducible exact tattinglaw7_awake.mono _)
   | (with_reducible exact tattingref1_SamePairs.mono _ _ _)
   | (with_reducible exact tattingref7_Move.mono _ _ _ _)
   | (with_reducible exact tattingref7_Turn.mono _ _)
   | (with_reducible exact LeO.refl _)
   | (with_reducible exact LeO.none _)
   | (with_reducible refine LeO.ite ?_ ?_)
   | (with_reducible refine LeO.bind ?_ (fun _ => ?_))
   | exact ih0 _ _ _ _ _
   | exact ih1 _ _ _ _ _ _ _ _
   | exact pairs_Good.mono _ _ _ _
   | exact pairs_Move.mono _ _ _ _
   | exact pairs_Turn.mono _ _
   | exact tattinglaw7_awake.mono _
   | exact tattingref1_SamePairs.mono _ _ _
   | exact tattingref7_Move.mono _ _ _ _
   | exact tattingref7_Turn.mono _ _
   | exact LeO.none _
   | refine LeO.ite ?_ ?_
   | refine LeO.bind ?_ (fun _ => ?_)
set_option maxHeartbeats 8000000 in
set_option maxRecDepth 100000 in
theorem tattinglaw7_PairsTurns.calls (k : Nat) (A0 : Option Addr) (c0 : Nat) (l0 : List Int) (A1 : Option Addr) (c1 : Nat) (l1 : List Int) (A2 : Option Addr) (c2 : Nat) (l2 : List (S24)) (a3 : Int) (r : Bool) (w : World) (hr0 : Kd.C (Kd.int .i64) w A0 l0.length l0) (hc0 : l0.length ≤ c0) (hr1 : Kd.C (Kd.int .i64) w A1 l1.length l1) (hc1 : l1.length ≤ c1) (hr2 : Kd.C k24 w A2 l2.length l2) (hc2 : l2.length ≤ c2) (h : tattinglaw7_PairsTurns.f k l0 l1 l2 a3 = some r) (hr_ : r = true) :
  Calls Try.prog 7 #[.slice A0 l0.length c0, .slice A1 l1.length c1, .slice A2 l2.length c2, .int .u8 a3] w fun e w' => e = .returned (.bool r) ∧ Below w.heap.size w w' := by
 have HR0 := Aside0.mk hr0
 have HC0 := Aside0.mk hc0
 clear hr0 hc0
 have HR1 := Aside0.mk hr1
 have HC1 := Aside0.mk hc1
 clear hr1 hc1
 have HR2 := Aside0.mk hr2
 have HC2 := Aside0.mk hc2
 clear hr2 hc2
 have HB := Aside0.mk (Below.refl w.heap.size w)
 have H : ((tattinglaw7_awake.f k).bind fun t181 => (if t181 = true then (if (l0.length : Int) > 30 then (tattinglaw7_PairsTurns.j0 k l0 l1 l2 a3 true) else (if (l1.length : Int) > 30 then (tattinglaw7_PairsTurns.j0 k l0 l1 l2 a3 true) else (tattinglaw7_PairsTurns.j0 k l0 l1 l2 a3 (decide ((l2.length : Int) > 30))))) else (some false))) = some r := h
 clear h
 replace H := Option.bind_eq_some_iff.mp H
 obtain ⟨t181, A50, H⟩ := H
 replace H : (if t181 = true then (if (l0.length : Int) > 30 then (tattinglaw7_PairsTurns.j0 k l0 l1 l2 a3 true) else (if (l1.length : Int) > 30 then (tattinglaw7_PairsTurns.j0 k l0 l1 l2 a3 true) else (tattinglaw7_PairsTurns.j0 k l0 l1 l2 a3 (decide ((l2.length : Int) > 30))))) else (some false)) = some r := H
 have A5 := Aside0.mk A50
 clear A50
 by_cases c6 : t181 = true
 ·subst c6
  have H1 : (if (l0.length : Int) > 30 then (tattinglaw7_PairsTurns.j0 k l0 l1 l2 a3 true) else (if (l1.length : Int) > 30 then (tattinglaw7_PairsTurns.j0 k l0 l1 l2 a3 true) else (tattinglaw7_PairsTurns.j0 k l0 l1 l2 a3 (decide ((l2.length : Int) > 30))))) = some r := by rw [if_pos rfl] at H; exact H
  clear H
  have H := H1
  clear H1
  have HC7 := Aside0.mk H
  clear H
  go_enter Try.func7, Try.ntmps7
  go_upto_region 3 with (first | ((with_reducible refine gate_callee (f := 13) rfl ?_); refine goesL_ (some 14) rfl rfl Try.func13 (by kernel_rfl) rfl #[] rfl (by (try simp only [List.map_toArray, List.map_cons, List.map_nil]); first | done | rfl | (simp only [List.length_drop, List.length_take]; rfl)) ?_; (with_reducible refine (tattinglaw7_awake.calls k  true _ A5.out rfl).mono ?_); rintro e w8 ⟨rfl, hb⟩; refine ⟨_, rfl, ?_⟩; have n0_ := Aside0.mk (below_step (by repeat (first | (with_reducible first | exact HB.out | apply below_alloc | apply pw_below_drewN | apply below_drew1) | exact HB.out)) hb); clear HB; have HB := n0_; clear n0_; (try clear hb); (try clear hb2); (try clear hk); (try clear hi)))
  (try simp only [Act.put, sA,sB,sC])
  go_cut [28] (fun v28 wc => ∃ (kq : Nat) (x28_6 : Bool), v28 = .bool x28_6 ∧ Aside0 (tattinglaw7_PairsTurns.j0 kq l0 l1 l2 a3 x28_6 = some r) ∧ Aside0 (kq ≤ k) ∧ Aside0 (Below w.heap.size w wc))
  case first =>
   have H := HC7.out
   clear HC7
   by_cases c9 : (l0.length : Int) > 30
   ·rw [if_pos c9] at H
    have c9b0 : decide (30 < (l0.length : Int)) = true := decide_eq_true c9
    have c9b1 : decide (30 < l0.length) = true := decide_eq_true (by omega)
    clear c9
    (first | rw [c9b0] | (simp only [i64_w, i32_w]; rw [c9b0]) | skip)
    have H' := Aside0.mk H
    clear H
    go_wp2
    go_meet
    case rel => exact ⟨_, (true), (by first | rfl | (simp; done) | (simp [*]; done)), H', ⟨by first | omega | exact Nat.le_refl _⟩, ⟨by repeat (first | (with_reducible first | exact HB.out | apply below_alloc | apply pw_below_drewN | apply below_drew1) | exact HB.out)⟩⟩
   ·rw [if_neg c9] at H
    have c9b0 : decide (30 < (l0.length : Int)) = false := decide_eq_false c9
    have c9b1 : decide (30 < l0.length) = false := decide_eq_false (by omega)
    clear c9
    (first | rw [c9b0] | (simp only [i64_w, i32_w]; rw [c9b0]) | skip)
    by_cases c10 : (l1.length : Int) > 30
    ·rw [if_pos c10] at H
     have c10b0 : decide (30 < (l1.length : Int)) = true := decide_eq_true c10
     have c10b1 : decide (30 < l1.length) = true := decide_eq_true (by omega)
     clear c10
     have H' := Aside0.mk H
     clear H
     go_wp2
     go_meet
     case rel => exact ⟨_, (true), (by first | rfl | (simp; done) | (simp [*]; done)), H', ⟨by first | omega | exact Nat.le_refl _⟩, ⟨by repeat (first | (with_reducible first | exact HB.out | apply below_alloc | apply pw_below_drewN | apply below_drew1) | exact HB.out)⟩⟩
    ·rw [if_neg c10] at H
     have c10b0 : decide (30 < (l1.length : Int)) = false := decide_eq_false c10
     have c10b1 : decide (30 < l1.length) = false := decide_eq_false (by omega)
     clear c10
     have H' := Aside0.mk H
     clear H
     go_wp2
     go_meet
     case rel => exact ⟨_, (decide ((l2.length : Int) > 30)), (by first | rfl | (simp; done) | (simp [*]; done)), H', ⟨by first | omega | exact Nat.le_refl _⟩, ⟨by repeat (first | (with_reducible first | exact HB.out | apply below_alloc | apply pw_below_drewN | apply below_drew1) | exact HB.out)⟩⟩
  case rest =>
   clear HC7
   try clear c1
   try clear c2
   try clear p2
   try clear c6
   try clear c7
   try clear c9
   try clear c9b0
   try clear c9b1
   try clear c10
   try clear c10b0
   try clear c10b1
   obtain ⟨kq, x28_6, rfl, HA, HJ6, HB⟩ := hcut
   cases kq with
   | zero => exact absurd HA.out (by simp [tattinglaw7_PairsTurns.j0])
   | succ kj6 =>
    have H := HA.out
    clear HA
    simp only [tattinglaw7_PairsTurns.j0] at H
    by_cases c11 : x28_6 = true
    ·subst c11
     have H1 : (some true) = some r := by rw [if_pos rfl] at H; exact H
     clear H
     have H := H1
     clear H1
     obtain rfl := Option.some.inj H
     go_wp2
     go_ret
     exact ⟨by first | rfl | (simp [errW_none, errW_some] <;> rfl) | (simp [*, errW_none, errW_some] <;> rfl), by repeat (first | (with_reducible first | exact HB.out | apply below_alloc | apply pw_below_drewN | apply below_drew1) | exact HB.out)⟩
    ·replace c11 := Bool.eq_false_iff.mpr c11
     subst c11
     have H1 : ((pairs_Turn.f kj6 l2).bind fun t182 => ((pairs_Move.f kj6 l2 (Int.tmod (wrap64 (a3)) 10) (wrap64 ((Int.tmod (wrap64 (a3)) 10) + 1))).bind fun t185 => (if 0 ≤ (Int.tmod (wrap64 (a3)) 10) then (if (Int.tmod (wrap64 (a3)) 10 : Int).toNat ≤ 35184372088832 then ((some (List.replicate (Int.tmod (wrap64 (a3)) 10 : Int).toNat 0 : List Int)).bind fun y188 => (if y188.length + l0.length < 17592186044416 then ((some (y188 ++ l0 : List Int)).bind fun y191 => (if 0 ≤ (wrap64 ((Int.tmod (wrap64 (a3)) 10) + 1)) then (if (wrap64 ((Int.tmod (wrap64 (a3)) 10) + 1) : Int).toNat ≤ 35184372088832 then ((some (List.replicate (wrap64 ((Int.tmod (wrap64 (a3)) 10) + 1) : Int).toNat 0 : List Int)).bind fun y194 => (if y194.length + l1.length < 17592186044416 then ((some (y194 ++ l1 : List Int)).bind fun y197 => ((pairs_Turn.f kj6 t182).bind fun t200 => ((tattingref1_SamePairs.f kj6 t200 l2).bind fun t203 => (if t203 = true then ((tattingref7_Turn.f kj6 l2).bind fun t204 => ((tattingref1_SamePairs.f kj6 t182 t204).bind fun t207 => (if t207 = true then ((tattingref7_Move.f kj6 l2 (Int.tmod (wrap64 (a3)) 10) (wrap64 ((Int.tmod (wrap64 (a3)) 10) + 1))).bind fun t208 => ((tattingref1_SamePairs.f kj6 t185 t208).bind fun t211 => (tattinglaw7_PairsTurns.j1 kj6 l0 l1 l2 t182 t185 y191 y197 (!t211)))) else (tattinglaw7_PairsTurns.j1 kj6 l0 l1 l2 t182 t185 y191 y197 true)))) else (tattinglaw7_PairsTurns.j1 kj6 l0 l1 l2 t182 t185 y191 y197 true))))) else (none))) else (none)) else (none))) else (none))) else (none)) else (none)))) = some r := by rw [if_neg (show ¬ (false = true) by decide)] at H; exact H
     clear H
     have H := H1
     clear H1
     replace H := Option.bind_eq_some_iff.mp H
     obtain ⟨t182, A120, H⟩ := H
     replace H : ((pairs_Move.f kj6 l2 (Int.tmod (wrap64 (a3)) 10) (wrap64 ((Int.tmod (wrap64 (a3)) 10) + 1))).bind fun t185 => (if 0 ≤ (Int.tmod (wrap64 (a3)) 10) then (if (Int.tmod (wrap64 (a3)) 10 : Int).toNat ≤ 35184372088832 then ((some (List.replicate (Int.tmod (wrap64 (a3)) 10 : Int).toNat 0 : List Int)).bind fun y188 => (if y188.length + l0.length < 17592186044416 then ((some (y188 ++ l0 : List Int)).bind fun y191 => (if 0 ≤ (wrap64 ((Int.tmod (wrap64 (a3)) 10) + 1)) then (if (wrap64 ((Int.tmod (wrap64 (a3)) 10) + 1) : Int).toNat ≤ 35184372088832 then ((some (List.replicate (wrap64 ((Int.tmod (wrap64 (a3)) 10) + 1) : Int).toNat 0 : List Int)).bind fun y194 => (if y194.length + l1.length < 17592186044416 then ((some (y194 ++ l1 : List Int)).bind fun y197 => ((pairs_Turn.f kj6 t182).bind fun t200 => ((tattingref1_SamePairs.f kj6 t200 l2).bind fun t203 => (if t203 = true then ((tattingref7_Turn.f kj6 l2).bind fun t204 => ((tattingref1_SamePairs.f kj6 t182 t204).bind fun t207 => (if t207 = true then ((tattingref7_Move.f kj6 l2 (Int.tmod (wrap64 (a3)) 10) (wrap64 ((Int.tmod (wrap64 (a3)) 10) + 1))).bind fun t208 => ((tattingref1_SamePairs.f kj6 t185 t208).bind fun t211 => (tattinglaw7_PairsTurns.j1 kj6 l0 l1 l2 t182 t185 y191 y197 (!t211)))) else (tattinglaw7_PairsTurns.j1 kj6 l0 l1 l2 t182 t185 y191 y197 true)))) else (tattinglaw7_PairsTurns.j1 kj6 l0 l1 l2 t182 t185 y191 y197 true))))) else (none))) else (none)) else (none))) else (none))) else (none)) else (none))) = some r := H
     have A12 := Aside0.mk A120
     clear A120
     replace H := Option.bind_eq_some_iff.mp H
     obtain ⟨t185, A130, H⟩ := H
     replace H : (if 0 ≤ (Int.tmod (wrap64 (a3)) 10) then (if (Int.tmod (wrap64 (a3)) 10 : Int).toNat ≤ 35184372088832 then ((some (List.replicate (Int.tmod (wrap64 (a3)) 10 : Int).toNat 0 : List Int)).bind fun y188 => (if y188.length + l0.length < 17592186044416 then ((some (y188 ++ l0 : List Int)).bind fun y191 => (if 0 ≤ (wrap64 ((Int.tmod (wrap64 (a3)) 10) + 1)) then (if (wrap64 ((Int.tmod (wrap64 (a3)) 10) + 1) : Int).toNat ≤ 35184372088832 then ((some (List.replicate (wrap64 ((Int.tmod (wrap64 (a3)) 10) + 1) : Int).toNat 0 : List Int)).bind fun y194 => (if y194.length + l1.length < 17592186044416 then ((some (y194 ++ l1 : List Int)).bind fun y197 => ((pairs_Turn.f kj6 t182).bind fun t200 => ((tattingref1_SamePairs.f kj6 t200 l2).bind fun t203 => (if t203 = true then ((tattingref7_Turn.f kj6 l2).bind fun t204 => ((tattingref1_SamePairs.f kj6 t182 t204).bind fun t207 => (if t207 = true then ((tattingref7_Move.f kj6 l2 (Int.tmod (wrap64 (a3)) 10) (wrap64 ((Int.tmod (wrap64 (a3)) 10) + 1))).bind fun t208 => ((tattingref1_SamePairs.f kj6 t185 t208).bind fun t211 => (tattinglaw7_PairsTurns.j1 kj6 l0 l1 l2 t182 t185 y191 y197 (!t211)))) else (tattinglaw7_PairsTurns.j1 kj6 l0 l1 l2 t182 t185 y191 y197 true)))) else (tattinglaw7_PairsTurns.j1 kj6 l0 l1 l2 t182 t185 y191 y197 true))))) else (none))) else (none)) else (none))) else (none))) else (none)) else (none)) = some r := H
     have A13 := Aside0.mk A130
     clear A130
     obtain ⟨ji14, hji14⟩ : ∃ j_ : Int, (Int.tmod (wrap64 (a3)) 10) = j_ := ⟨_, rfl⟩
     replace H : (if 0 ≤ (ji14) then (if (ji14 : Int).toNat ≤ 35184372088832 then ((some (List.replicate (ji14 : Int).toNat 0 : List Int)).bind fun y188 => (if y188.length + l0.length < 17592186044416 then ((some (y188 ++ l0 : List Int)).bind fun y191 => (if 0 ≤ (wrap64 ((ji14) + 1)) then (if (wrap64 ((ji14) + 1) : Int).toNat ≤ 35184372088832 then ((some (List.replicate (wrap64 ((ji14) + 1) : Int).toNat 0 : List Int)).bind fun y194 => (if y194.length + l1.length < 17592186044416 then ((some (y194 ++ l1 : List Int)).bind fun y197 => ((pairs_Turn.f kj6 t182).bind fun t200 => ((tattingref1_SamePairs.f kj6 t200 l2).bind fun t203 => (if t203 = true then ((tattingref7_Turn.f kj6 l2).bind fun t204 => ((tattingref1_SamePairs.f kj6 t182 t204).bind fun t207 => (if t207 = true then ((tattingref7_Move.f kj6 l2 (ji14) (wrap64 ((ji14) + 1))).bind fun t208 => ((tattingref1_SamePairs.f kj6 t185 t208).bind fun t211 => (tattinglaw7_PairsTurns.j1 kj6 l0 l1 l2 t182 t185 y191 y197 (!t211)))) else (tattinglaw7_PairsTurns.j1 kj6 l0 l1 l2 t182 t185 y191 y197 true)))) else (tattinglaw7_PairsTurns.j1 kj6 l0 l1 l2 t182 t185 y191 y197 true))))) else (none))) else (none)) else (none))) else (none))) else (none)) else (none)) = some r := by first | (rw [hji14] at H; exact H) | (simp only [hji14] at H ⊢; exact H)
     (try rw [hji14] at A12)
     (try rw [hji14] at A13)
     by_cases c15 : 0 ≤ (ji14)
     ·rw [if_pos c15] at H
      have c15b0 := eq_true c15
      have c15b1 : decide (0 ≤ (ji14)) = true := decide_eq_true c15
      clear c15
      by_cases c16 : (ji14 : Int).toNat ≤ 35184372088832
      ·rw [if_pos c16] at H
       have c16b0 := eq_true c16
       have c16b1 : decide ((ji14 : Int).toNat ≤ 35184372088832) = true := decide_eq_true c16
       clear c16
       obtain ⟨y188, hy188⟩ : ∃ y_ : List Int, y_ = (List.replicate (ji14 : Int).toNat 0) := ⟨_, rfl⟩
       replace H : (if y188.length + l0.length < 17592186044416 then ((some (y188 ++ l0 : List Int)).bind fun y191 => (if 0 ≤ (wrap64 ((ji14) + 1)) then (if (wrap64 ((ji14) + 1) : Int).toNat ≤ 35184372088832 then ((some (List.replicate (wrap64 ((ji14) + 1) : Int).toNat 0 : List Int)).bind fun y194 => (if y194.length + l1.length < 17592186044416 then ((some (y194 ++ l1 : List Int)).bind fun y197 => ((pairs_Turn.f kj6 t182).bind fun t200 => ((tattingref1_SamePairs.f kj6 t200 l2).bind fun t203 => (if t203 = true then ((tattingref7_Turn.f kj6 l2).bind fun t204 => ((tattingref1_SamePairs.f kj6 t182 t204).bind fun t207 => (if t207 = true then ((tattingref7_Move.f kj6 l2 (ji14) (wrap64 ((ji14) + 1))).bind fun t208 => ((tattingref1_SamePairs.f kj6 t185 t208).bind fun t211 => (tattinglaw7_PairsTurns.j1 kj6 l0 l1 l2 t182 t185 y191 y197 (!t211)))) else (tattinglaw7_PairsTurns.j1 kj6 l0 l1 l2 t182 t185 y191 y197 true)))) else (tattinglaw7_PairsTurns.j1 kj6 l0 l1 l2 t182 t185 y191 y197 true))))) else (none))) else (none)) else (none))) else (none)) = some r := by first | (rw [hy188]; with_reducible exact H) | (have H2_ := (Option.bind_some _ _).symm.trans H; rw [hy188]; with_reducible exact H2_) | (have H2_ := (Option.bind_some _ _).symm.trans H; with_reducible exact H2_) | with_reducible exact H | (rw [hy188]; exact H) | exact H
       have Ny188 := Aside0.mk hy188
       clear hy188
       by_cases c17 : y188.length + l0.length < 17592186044416
       ·rw [if_pos c17] at H
        have LMc17 := Aside0.mk c17
        clear c17
        obtain ⟨y191, hy191⟩ : ∃ y_ : List Int, y_ = (y188 ++ l0) := ⟨_, rfl⟩
        replace H : (if 0 ≤ (wrap64 ((ji14) + 1)) then (if (wrap64 ((ji14) + 1) : Int).toNat ≤ 35184372088832 then ((some (List.replicate (wrap64 ((ji14) + 1) : Int).toNat 0 : List Int)).bind fun y194 => (if y194.length + l1.length < 17592186044416 then ((some (y194 ++ l1 : List Int)).bind fun y197 => ((pairs_Turn.f kj6 t182).bind fun t200 => ((tattingref1_SamePairs.f kj6 t200 l2).bind fun t203 => (if t203 = true then ((tattingref7_Turn.f kj6 l2).bind fun t204 => ((tattingref1_SamePairs.f kj6 t182 t204).bind fun t207 => (if t207 = true then ((tattingref7_Move.f kj6 l2 (ji14) (wrap64 ((ji14) + 1))).bind fun t208 => ((tattingref1_SamePairs.f kj6 t185 t208).bind fun t211 => (tattinglaw7_PairsTurns.j1 kj6 l0 l1 l2 t182 t185 y191 y197 (!t211)))) else (tattinglaw7_PairsTurns.j1 kj6 l0 l1 l2 t182 t185 y191 y197 true)))) else (tattinglaw7_PairsTurns.j1 kj6 l0 l1 l2 t182 t185 y191 y197 true))))) else (none))) else (none)) else (none)) = some r := by first | (rw [hy191]; with_reducible exact H) | (have H2_ := (Option.bind_some _ _).symm.trans H; rw [hy191]; with_reducible exact H2_) | (have H2_ := (Option.bind_some _ _).symm.trans H; with_reducible exact H2_) | with_reducible exact H | (rw [hy191]; exact H) | exact H
        have Ny191 := Aside0.mk hy191
        clear hy191
        obtain ⟨ji18, hji18⟩ : ∃ j_ : Int, (wrap64 ((ji14) + 1)) = j_ := ⟨_, rfl⟩
        replace H : (if 0 ≤ (ji18) then (if (ji18 : Int).toNat ≤ 35184372088832 then ((some (List.replicate (ji18 : Int).toNat 0 : List Int)).bind fun y194 => (if y194.length + l1.length < 17592186044416 then ((some (y194 ++ l1 : List Int)).bind fun y197 => ((pairs_Turn.f kj6 t182).bind fun t200 => ((tattingref1_SamePairs.f kj6 t200 l2).bind fun t203 => (if t203 = true then ((tattingref7_Turn.f kj6 l2).bind fun t204 => ((tattingref1_SamePairs.f kj6 t182 t204).bind fun t207 => (if t207 = true then ((tattingref7_Move.f kj6 l2 (ji14) (ji18)).bind fun t208 => ((tattingref1_SamePairs.f kj6 t185 t208).bind fun t211 => (tattinglaw7_PairsTurns.j1 kj6 l0 l1 l2 t182 t185 y191 y197 (!t211)))) else (tattinglaw7_PairsTurns.j1 kj6 l0 l1 l2 t182 t185 y191 y197 true)))) else (tattinglaw7_PairsTurns.j1 kj6 l0 l1 l2 t182 t185 y191 y197 true))))) else (none))) else (none)) else (none)) = some r := by first | (rw [hji18] at H; exact H) | (simp only [hji18] at H ⊢; exact H)
        (try rw [hji18] at A12)
        (try rw [hji18] at A13)
        have hji18w : (IntKind.i64.wrap ((ji14) + 1)) = ji18 := (i64_w _).trans hji18
        by_cases c19 : 0 ≤ (ji18)
        ·rw [if_pos c19] at H
         have c19b0 := eq_true c19
         have c19b1 : decide (0 ≤ (ji18)) = true := decide_eq_true c19
         clear c19
         by_cases c20 : (ji18 : Int).toNat ≤ 35184372088832
         ·rw [if_pos c20] at H
          have c20b0 := eq_true c20
          have c20b1 : decide ((ji18 : Int).toNat ≤ 35184372088832) = true := decide_eq_true c20
          clear c20
          obtain ⟨y194, hy194⟩ : ∃ y_ : List Int, y_ = (List.replicate (ji18 : Int).toNat 0) := ⟨_, rfl⟩
          replace H : (if y194.length + l1.length < 17592186044416 then ((some (y194 ++ l1 : List Int)).bind fun y197 => ((pairs_Turn.f kj6 t182).bind fun t200 => ((tattingref1_SamePairs.f kj6 t200 l2).bind fun t203 => (if t203 = true then ((tattingref7_Turn.f kj6 l2).bind fun t204 => ((tattingref1_SamePairs.f kj6 t182 t204).bind fun t207 => (if t207 = true then ((tattingref7_Move.f kj6 l2 (ji14) (ji18)).bind fun t208 => ((tattingref1_SamePairs.f kj6 t185 t208).bind fun t211 => (tattinglaw7_PairsTurns.j1 kj6 l0 l1 l2 t182 t185 y191 y197 (!t211)))) else (tattinglaw7_PairsTurns.j1 kj6 l0 l1 l2 t182 t185 y191 y197 true)))) else (tattinglaw7_PairsTurns.j1 kj6 l0 l1 l2 t182 t185 y191 y197 true))))) else (none)) = some r := by first | (rw [hy194]; with_reducible exact H) | (have H2_ := (Option.bind_some _ _).symm.trans H; rw [hy194]; with_reducible exact H2_) | (have H2_ := (Option.bind_some _ _).symm.trans H; with_reducible exact H2_) | with_reducible exact H | (rw [hy194]; exact H) | exact H
          have Ny194 := Aside0.mk hy194
          clear hy194
          by_cases c21 : y194.length + l1.length < 17592186044416
          ·rw [if_pos c21] at H
           have LMc21 := Aside0.mk c21
           clear c21
           obtain ⟨y197, hy197⟩ : ∃ y_ : List Int, y_ = (y194 ++ l1) := ⟨_, rfl⟩
           replace H : ((pairs_Turn.f kj6 t182).bind fun t200 => ((tattingref1_SamePairs.f kj6 t200 l2).bind fun t203 => (if t203 = true then ((tattingref7_Turn.f kj6 l2).bind fun t204 => ((tattingref1_SamePairs.f kj6 t182 t204).bind fun t207 => (if t207 = true then ((tattingref7_Move.f kj6 l2 (ji14) (ji18)).bind fun t208 => ((tattingref1_SamePairs.f kj6 t185 t208).bind fun t211 => (tattinglaw7_PairsTurns.j1 kj6 l0 l1 l2 t182 t185 y191 y197 (!t211)))) else (tattinglaw7_PairsTurns.j1 kj6 l0 l1 l2 t182 t185 y191 y197 true)))) else (tattinglaw7_PairsTurns.j1 kj6 l0 l1 l2 t182 t185 y191 y197 true)))) = some r := by first | (rw [hy197]; with_reducible exact H) | (have H2_ := (Option.bind_some _ _).symm.trans H; rw [hy197]; with_reducible exact H2_) | (have H2_ := (Option.bind_some _ _).symm.trans H; with_reducible exact H2_) | with_reducible exact H | (rw [hy197]; exact H) | exact H
           have Ny197 := Aside0.mk hy197
           clear hy197
           have HC22 := Aside0.mk H
           clear H
           go_upto_region 10 with (first | ((with_reducible refine gate_callee (f := 11) rfl ?_); refine goesL_ (some 33) rfl rfl Try.func11 (by kernel_rfl) rfl #[.slice A2 l2.length c2] rfl (by (try simp only [List.map_toArray, List.map_cons, List.map_nil]); first | done | rfl | (simp only [List.length_drop, List.length_take]; rfl)) ?_; (with_reducible refine (pairs_Turn.calls kj6 _ _ l2 t182 _ ?side1 ?side2 A12.out).mono ?_); (case side1 => repeat (first | exact (Kd.C_below HR2.out HB.out) | (with_reducible refine Kd.C_alloc ?_ _) | (with_reducible refine Kd.C_drewN ?_ _) | (with_reducible refine Kd.C_drew ?_))); (case side2 => exact HC2.out); rintro e w23 ⟨v183, rfl, ho0, hb⟩; refine ⟨_, rfl, ?_⟩; have n0_ := Aside0.mk (Kd.R_lower ho0 (below_size (by repeat (first | (with_reducible first | exact HB.out | apply below_alloc | apply pw_below_drewN | apply below_drew1) | exact HB.out)))); have n1_ := Aside0.mk (below_step (by repeat (first | (with_reducible first | exact HB.out | apply below_alloc | apply pw_below_drewN | apply below_drew1) | exact HB.out)) hb); clear HB; have HO184 := n0_; have HB := n1_; clear n0_ n1_; (try clear hb); (try clear hb2); (try clear hk); (try clear hi); (try clear ho0)) | ((with_reducible refine gate_callee (f := 10) rfl ?_); refine goesL_ (some 38) rfl rfl Try.func10 (by kernel_rfl) rfl #[.slice A2 l2.length c2, .int .i64 ji14, .int .i64 ji18] rfl (by (try simp only [List.map_toArray, List.map_cons, List.map_nil]); first | done | (simp only [hji14, hji18]; rfl) | rfl | (simp only [List.length_drop, List.length_take]; rfl)) ?_; (with_reducible refine (pairs_Move.calls kj6 _ _ l2 ji14 ji18 t185 _ ?side1 ?side2 A13.out).mono ?_); (case side1 => repeat (first | exact (Kd.C_below HR2.out HB.out) | (with_reducible refine Kd.C_alloc ?_ _) | (with_reducible refine Kd.C_drewN ?_ _) | (with_reducible refine Kd.C_drew ?_))); (case side2 => exact HC2.out); rintro e w24 ⟨v186, rfl, ho0, hb⟩; refine ⟨_, rfl, ?_⟩; have n0_ := Aside0.mk (Kd.R_elder' (by (with_reducible repeat (first | apply Kd.R_alloc | apply Kd.R_drewN | apply Kd.R_drew)); exact HO184.out) (Kd.R_base ho0) hb); have n1_ := Aside0.mk (Kd.R_lower (Kd.R_new' ho0 (Kd.R_lt (by (with_reducible repeat (first | apply Kd.R_alloc | apply Kd.R_drewN | apply Kd.R_drew)); exact HO184.out))) (below_size (by repeat (first | (with_reducible first | exact HB.out | apply below_alloc | apply pw_below_drewN | apply below_drew1) | exact HB.out)))); have n2_ := Aside0.mk (below_step (by repeat (first | (with_reducible first | exact HB.out | apply below_alloc | apply pw_below_drewN | apply below_drew1) | exact HB.out)) hb); clear HO184; clear HB; have HO184 := n0_; have HO187 := n1_; have HB := n2_; clear n0_ n1_ n2_; (try clear hb); (try clear hb2); (try clear hk); (try clear hi); (try clear ho0)) | ((with_reducible refine gate_dst (N := 40) rfl ?_); (try (refine gate_guard (by rfl) ?_; dsimp only)); refine Kd.R_make (Kd.int .i64) _ 3 rfl (N := 40) rfl 22 _ _ rfl ji14 rfl rfl Try.underlying22 (.int .i64 0) 8 info3 rfl (by decide) (by omega) 0 (ok := fun _ => True) (okp := fun _ => True) rfl (fun _ hk => hk) trivial (of_decide_eq_true (by first | (with_reducible assumption) | assumption)) (Nat.le_trans (Nat.mul_le_mul_right _ (of_decide_eq_true (by first | (with_reducible assumption) | assumption) : ji14.toNat ≤ 35184372088832)) (by omega)) (Below.refl _ _) (Nat.le_refl _) ?_; intro v189 w25 ho26 hb hg_ hnew_; (try clear hg_); (try clear hnew_); (first | rw [← Ny188.out] at ho26 | (simp only [Int.reduceToNat] at ho26; rw [← Ny188.out] at ho26)); have n0_ := Aside0.mk (Kd.R_below (by (with_reducible repeat (first | apply Kd.R_alloc | apply Kd.R_drewN | apply Kd.R_drew)); exact HO184.out) hb); have n1_ := Aside0.mk (Kd.R_below (by (with_reducible repeat (first | apply Kd.R_alloc | apply Kd.R_drewN | apply Kd.R_drew)); exact HO187.out) hb); have n2_ := Aside0.mk (Kd.R_lower ho26 (below_size (by repeat (first | (with_reducible first | exact HB.out | apply below_alloc | apply pw_below_drewN | apply below_drew1) | exact HB.out)))); have n3_ := Aside0.mk (below_step (by repeat (first | (with_reducible first | exact HB.out | apply below_alloc | apply pw_below_drewN | apply below_drew1) | exact HB.out)) hb); clear HO184; clear HO187; clear HB; have HO184 := n0_; have HO187 := n1_; have HO190 := n2_; have HB := n3_; clear n0_ n1_ n2_ n3_; (try clear hb); (try clear ho26)) | ((with_reducible refine gate_builtin (b := .append) (xs := #[.tmp 40, .tmp 41]) rfl ?_); (try (refine gate_guard (by rfl) ?_; dsimp only)); at_builtin; refine Kd.R_append_rows (Kd.int .i64) (w0 := w) w.heap.size rfl (.tmp 40) (.tmp 41) 22 3 (.int .i64 0) 8 rfl Try.underlying22 info3 rfl (by decide) (by omega) v189 y188 l0 _ _ _ (fun _ => True) (fun _ => False) rfl rfl ?aO ?aR (fun _ _ h => h) (fun _ h => h.elim) ?aF ?aB ?aS ?aL ?_; (case aR => repeat (first | exact (Kd.C_below HR0.out HB.out) | (with_reducible refine Kd.C_alloc ?_ _) | (with_reducible refine Kd.C_drewN ?_ _) | (with_reducible refine Kd.C_drew ?_))); (case aB => exact (by repeat (first | (with_reducible first | exact HB.out | apply below_alloc | apply pw_below_drewN | apply below_drew1) | exact HB.out))); (case aF => exact (fun _ _ => trivial)); (case aO => exact (by (with_reducible repeat (first | apply Kd.R_alloc | apply Kd.R_drewN | apply Kd.R_drew)); exact HO190.out)); (case aS => exact (below_size (by repeat (first | (with_reducible first | exact HB.out | apply below_alloc | apply pw_below_drewN | apply below_drew1) | exact HB.out)))); (case aL => have := LMc17.out; omega); intro v192 w27 ho hb hg hat; rw [← Ny191.out] at ho; have n0_ := Aside0.mk (Kd.R_over' (by (with_reducible repeat (first | apply Kd.R_alloc | apply Kd.R_drewN | apply Kd.R_drew)); exact HO184.out) (Kd.R_typed (by (with_reducible repeat (first | apply Kd.R_alloc | apply Kd.R_drewN | apply Kd.R_drew)); exact HO190.out)) (by decide) hg); have n1_ := Aside0.mk (Kd.R_over' (by (with_reducible repeat (first | apply Kd.R_alloc | apply Kd.R_drewN | apply Kd.R_drew)); exact HO187.out) (Kd.R_typed (by (with_reducible repeat (first | apply Kd.R_alloc | apply Kd.R_drewN | apply Kd.R_drew)); exact HO190.out)) (by decide) hg); have n2_ := Aside0.mk (hb); have n3_ := Aside0.mk (ho); clear HO184; clear HO187; clear HB; clear HO190; have HO184 := n0_; have HO187 := n1_; have HB := n2_; have HO193 := n3_; clear n0_ n1_ n2_ n3_; (try clear ho); (try clear hb); (try clear hg); (try clear hat)) | ((with_reducible refine gate_dst (N := 45) rfl ?_); (try (refine gate_guard (by rfl) ?_; dsimp only)); refine Kd.R_make (Kd.int .i64) _ 3 rfl (N := 45) rfl 22 _ _ rfl ji18 rfl rfl Try.underlying22 (.int .i64 0) 8 info3 rfl (by decide) (by omega) 0 (ok := fun _ => True) (okp := fun _ => True) rfl (fun _ hk => hk) trivial (of_decide_eq_true (by first | (with_reducible assumption) | assumption)) (Nat.le_trans (Nat.mul_le_mul_right _ (of_decide_eq_true (by first | (with_reducible assumption) | assumption) : ji18.toNat ≤ 35184372088832)) (by omega)) (Below.refl _ _) (Nat.le_refl _) ?_; intro v195 w28 ho29 hb hg_ hnew_; (try clear hg_); (try clear hnew_); (first | rw [← Ny194.out] at ho29 | (simp only [Int.reduceToNat] at ho29; rw [← Ny194.out] at ho29)); have n0_ := Aside0.mk (Kd.R_below (by (with_reducible repeat (first | apply Kd.R_alloc | apply Kd.R_drewN | apply Kd.R_drew)); exact HO184.out) hb); have n1_ := Aside0.mk (Kd.R_below (by (with_reducible repeat (first | apply Kd.R_alloc | apply Kd.R_drewN | apply Kd.R_drew)); exact HO187.out) hb); have n2_ := Aside0.mk (Kd.R_elder' (by (with_reducible repeat (first | apply Kd.R_alloc | apply Kd.R_drewN | apply Kd.R_drew)); exact HO193.out) (Kd.R_base ho29) hb); have n3_ := Aside0.mk (Kd.R_lower (Kd.R_new' ho29 (Kd.R_lt (by (with_reducible repeat (first | apply Kd.R_alloc | apply Kd.R_drewN | apply Kd.R_drew)); exact HO193.out))) (below_size (by repeat (first | (with_reducible first | exact HB.out | apply below_alloc | apply pw_below_drewN | apply below_drew1) | exact HB.out)))); have n4_ := Aside0.mk (below_step (by repeat (first | (with_reducible first | exact HB.out | apply below_alloc | apply pw_below_drewN | apply below_drew1) | exact HB.out)) hb); clear HO184; clear HO187; clear HO193; clear HB; have HO184 := n0_; have HO187 := n1_; have HO193 := n2_; have HO196 := n3_; have HB := n4_; clear n0_ n1_ n2_ n3_ n4_; (try clear hb); (try clear ho29)) | ((with_reducible refine gate_builtin (b := .append) (xs := #[.tmp 45, .tmp 46]) rfl ?_); (try (refine gate_guard (by rfl) ?_; dsimp only)); at_builtin; refine Kd.R_append_rows (Kd.int .i64) (w0 := w) w.heap.size rfl (.tmp 45) (.tmp 46) 22 3 (.int .i64 0) 8 rfl Try.underlying22 info3 rfl (by decide) (by omega) v195 y194 l1 _ _ _ (fun k_ => some k_ ≠ (v192 : Value).ownBlock) (fun _ => False) rfl rfl ?aO ?aR (fun _ _ h => h) (fun _ h => h.elim) ?aF ?aB ?aS ?aL ?_; (case aR => repeat (first | exact (Kd.C_below HR1.out HB.out) | (with_reducible refine Kd.C_alloc ?_ _) | (with_reducible refine Kd.C_drewN ?_ _) | (with_reducible refine Kd.C_drew ?_))); (case aB => exact (by repeat (first | (with_reducible first | exact HB.out | apply below_alloc | apply pw_below_drewN | apply below_drew1) | exact HB.out))); (case aF => exact (fun k_ hk => Kd.fresh' (Kd.R_lt (by (with_reducible repeat (first | apply Kd.R_alloc | apply Kd.R_drewN | apply Kd.R_drew)); exact HO193.out)) k_ hk)); (case aO => exact (by (with_reducible repeat (first | apply Kd.R_alloc | apply Kd.R_drewN | apply Kd.R_drew)); exact Kd.R_mono HO196.out (fun _ hk => hk.2))); (case aS => exact (below_size (by repeat (first | (with_reducible first | exact HB.out | apply below_alloc | apply pw_below_drewN | apply below_drew1) | exact HB.out)))); (case aL => have := LMc21.out; omega); intro v198 w30 ho hb hg hat; rw [← Ny197.out] at ho; have n0_ := Aside0.mk (Kd.R_over' (by (with_reducible repeat (first | apply Kd.R_alloc | apply Kd.R_drewN | apply Kd.R_drew)); exact HO184.out) (Kd.R_typed (by (with_reducible repeat (first | apply Kd.R_alloc | apply Kd.R_drewN | apply Kd.R_drew)); exact HO196.out)) (by decide) hg); have n1_ := Aside0.mk (Kd.R_over' (by (with_reducible repeat (first | apply Kd.R_alloc | apply Kd.R_drewN | apply Kd.R_drew)); exact HO187.out) (Kd.R_typed (by (with_reducible repeat (first | apply Kd.R_alloc | apply Kd.R_drewN | apply Kd.R_drew)); exact HO196.out)) (by decide) hg); have n2_ := Aside0.mk (Kd.R_after (ok := (fun _ => True)) (by (with_reducible repeat (first | apply Kd.R_alloc | apply Kd.R_drewN | apply Kd.R_drew)); exact HO193.out) hg hat); have n3_ := Aside0.mk (hb); have n4_ := Aside0.mk (ho); clear HO184; clear HO187; clear HO193; clear HB; clear HO196; have HO184 := n0_; have HO187 := n1_; have HO193 := n2_; have HB := n3_; have HO199 := n4_; clear n0_ n1_ n2_ n3_ n4_; (try clear ho); (try clear hb); (try clear hg); (try clear hat)))
           (try simp only [Act.put, sA,sB,sC])
           go_cut [69] (fun v69 wc => ∃ (kq : Nat) (x69_21 : Bool), v69 = .bool x69_21 ∧ Aside0 (tattinglaw7_PairsTurns.j1 kq l0 l1 l2 t182 t185 y191 y197 x69_21 = some r) ∧ Aside0 (kq ≤ kj6) ∧ Aside0 (Kd.R k24 24 wc w.heap.size (fun k_ => some k_ ≠ (v186 : Value).ownBlock) v183 t182) ∧ Aside0 (Kd.R k24 24 wc w.heap.size (fun k_ => some k_ ≠ (v183 : Value).ownBlock) v186 t185) ∧ Aside0 (Kd.R (Kd.int .i64) 3 wc w.heap.size (fun k_ => some k_ ≠ (v198 : Value).ownBlock) v192 y191) ∧ Aside0 (Kd.R (Kd.int .i64) 3 wc w.heap.size (fun k_ => some k_ ≠ (v192 : Value).ownBlock) v198 y197) ∧ Aside0 (Below w.heap.size w wc))
           case first =>
            have H := HC22.out
            clear HC22
            replace H := Option.bind_eq_some_iff.mp H
            obtain ⟨t200, A310, H⟩ := H
            replace H : ((tattingref1_SamePairs.f kj6 t200 l2).bind fun t203 => (if t203 = true then ((tattingref7_Turn.f kj6 l2).bind fun t204 => ((tattingref1_SamePairs.f kj6 t182 t204).bind fun t207 => (if t207 = true then ((tattingref7_Move.f kj6 l2 (ji14) (ji18)).bind fun t208 => ((tattingref1_SamePairs.f kj6 t185 t208).bind fun t211 => (tattinglaw7_PairsTurns.j1 kj6 l0 l1 l2 t182 t185 y191 y197 (!t211)))) else (tattinglaw7_PairsTurns.j1 kj6 l0 l1 l2 t182 t185 y191 y197 true)))) else (tattinglaw7_PairsTurns.j1 kj6 l0 l1 l2 t182 t185 y191 y197 true))) = some r := H
            have A31 := Aside0.mk A310
            clear A310
            replace H := Option.bind_eq_some_iff.mp H
            obtain ⟨t203, A320, H⟩ := H
            replace H : (if t203 = true then ((tattingref7_Turn.f kj6 l2).bind fun t204 => ((tattingref1_SamePairs.f kj6 t182 t204).bind fun t207 => (if t207 = true then ((tattingref7_Move.f kj6 l2 (ji14) (ji18)).bind fun t208 => ((tattingref1_SamePairs.f kj6 t185 t208).bind fun t211 => (tattinglaw7_PairsTurns.j1 kj6 l0 l1 l2 t182 t185 y191 y197 (!t211)))) else (tattinglaw7_PairsTurns.j1 kj6 l0 l1 l2 t182 t185 y191 y197 true)))) else (tattinglaw7_PairsTurns.j1 kj6 l0 l1 l2 t182 t185 y191 y197 true)) = some r := H
            have A32 := Aside0.mk A320
            clear A320
            by_cases c33 : t203 = true
            ·subst c33
             have H1 : ((tattingref7_Turn.f kj6 l2).bind fun t204 => ((tattingref1_SamePairs.f kj6 t182 t204).bind fun t207 => (if t207 = true then ((tattingref7_Move.f kj6 l2 (ji14) (ji18)).bind fun t208 => ((tattingref1_SamePairs.f kj6 t185 t208).bind fun t211 => (tattinglaw7_PairsTurns.j1 kj6 l0 l1 l2 t182 t185 y191 y197 (!t211)))) else (tattinglaw7_PairsTurns.j1 kj6 l0 l1 l2 t182 t185 y191 y197 true)))) = some r := by rw [if_pos rfl] at H; exact H
             clear H
             have H := H1
             clear H1
             replace H := Option.bind_eq_some_iff.mp H
             obtain ⟨t204, A340, H⟩ := H
             replace H : ((tattingref1_SamePairs.f kj6 t182 t204).bind fun t207 => (if t207 = true then ((tattingref7_Move.f kj6 l2 (ji14) (ji18)).bind fun t208 => ((tattingref1_SamePairs.f kj6 t185 t208).bind fun t211 => (tattinglaw7_PairsTurns.j1 kj6 l0 l1 l2 t182 t185 y191 y197 (!t211)))) else (tattinglaw7_PairsTurns.j1 kj6 l0 l1 l2 t182 t185 y191 y197 true))) = some r := H
             have A34 := Aside0.mk A340
             clear A340
             replace H := Option.bind_eq_some_iff.mp H
             obtain ⟨t207, A350, H⟩ := H
             replace H : (if t207 = true then ((tattingref7_Move.f kj6 l2 (ji14) (ji18)).bind fun t208 => ((tattingref1_SamePairs.f kj6 t185 t208).bind fun t211 => (tattinglaw7_PairsTurns.j1 kj6 l0 l1 l2 t182 t185 y191 y197 (!t211)))) else (tattinglaw7_PairsTurns.j1 kj6 l0 l1 l2 t182 t185 y191 y197 true)) = some r := H
             have A35 := Aside0.mk A350
             clear A350
             by_cases c36 : t207 = true
             ·subst c36
              have H1 : ((tattingref7_Move.f kj6 l2 (ji14) (ji18)).bind fun t208 => ((tattingref1_SamePairs.f kj6 t185 t208).bind fun t211 => (tattinglaw7_PairsTurns.j1 kj6 l0 l1 l2 t182 t185 y191 y197 (!t211)))) = some r := by rw [if_pos rfl] at H; exact H
              clear H
              have H := H1
              clear H1
              replace H := Option.bind_eq_some_iff.mp H
              obtain ⟨t208, A370, H⟩ := H
              replace H : ((tattingref1_SamePairs.f kj6 t185 t208).bind fun t211 => (tattinglaw7_PairsTurns.j1 kj6 l0 l1 l2 t182 t185 y191 y197 (!t211))) = some r := H
              have A37 := Aside0.mk A370
              clear A370
              replace H := Option.bind_eq_some_iff.mp H
              obtain ⟨t211, A380, H⟩ := H
              replace H : (tattinglaw7_PairsTurns.j1 kj6 l0 l1 l2 t182 t185 y191 y197 (!t211)) = some r := H
              have A38 := Aside0.mk A380
              clear A380
              have H' := Aside0.mk H
              clear H
              obtain ⟨Ao39, co39, eo39⟩ := Kd.R_slice HO184.out
              subst eo39
              go_wp2_with (first | ((with_reducible refine gate_callee (f := 11) rfl ?_); refine goesL_ (some 49) rfl rfl Try.func11 (by kernel_rfl) rfl #[.slice Ao39 t182.length co39] rfl (by (try simp only [List.map_toArray, List.map_cons, List.map_nil]); first | done | rfl | (simp only [List.length_drop, List.length_take]; rfl)) ?_; (with_reducible refine (pairs_Turn.calls kj6 _ _ t182 t200 _ ?side1 ?side2 A31.out).mono ?_); (case side1 => repeat (first | exact (Kd.R_reads' HO184.out).2.2 | (with_reducible refine Kd.C_alloc ?_ _) | (with_reducible refine Kd.C_drewN ?_ _) | (with_reducible refine Kd.C_drew ?_))); (case side2 => exact (Kd.R_reads' HO184.out).2.1); rintro e w40 ⟨v201, rfl, ho0, hb⟩; refine ⟨_, rfl, ?_⟩; have n0_ := Aside0.mk (Kd.R_elder' (by (with_reducible repeat (first | apply Kd.R_alloc | apply Kd.R_drewN | apply Kd.R_drew)); exact HO184.out) (Kd.R_base ho0) hb); have n1_ := Aside0.mk (Kd.R_elder' (by (with_reducible repeat (first | apply Kd.R_alloc | apply Kd.R_drewN | apply Kd.R_drew)); exact HO187.out) (Kd.R_base ho0) hb); have n2_ := Aside0.mk (Kd.R_below (by (with_reducible repeat (first | apply Kd.R_alloc | apply Kd.R_drewN | apply Kd.R_drew)); exact HO193.out) hb); have n3_ := Aside0.mk (Kd.R_below (by (with_reducible repeat (first | apply Kd.R_alloc | apply Kd.R_drewN | apply Kd.R_drew)); exact HO199.out) hb); have n4_ := Aside0.mk (Kd.R_lower (Kd.R_new' (Kd.R_new' ho0 (Kd.R_lt (by (with_reducible repeat (first | apply Kd.R_alloc | apply Kd.R_drewN | apply Kd.R_drew)); exact HO184.out))) (Kd.R_lt (by (with_reducible repeat (first | apply Kd.R_alloc | apply Kd.R_drewN | apply Kd.R_drew)); exact HO187.out))) (below_size (by repeat (first | (with_reducible first | exact HB.out | apply below_alloc | apply pw_below_drewN | apply below_drew1) | exact HB.out)))); have n5_ := Aside0.mk (below_step (by repeat (first | (with_reducible first | exact HB.out | apply below_alloc | apply pw_below_drewN | apply below_drew1) | exact HB.out)) hb); clear HO184; clear HO187; clear HO193; clear HO199; clear HB; have HO184 := n0_; have HO187 := n1_; have HO193 := n2_; have HO199 := n3_; have HO202 := n4_; have HB := n5_; clear n0_ n1_ n2_ n3_ n4_ n5_; (try clear hb); (try clear hb2); (try clear hk); (try clear hi); (try clear ho0); obtain ⟨Ao41, co41, eo41⟩ := Kd.R_slice HO202.out; subst eo41) | ((with_reducible refine gate_callee (f := 19) rfl ?_); refine goesL_ (some 51) rfl rfl Try.func19 (by kernel_rfl) rfl #[.slice Ao41 t200.length co41, .slice A2 l2.length c2] rfl (by (try simp only [List.map_toArray, List.map_cons, List.map_nil]); first | done | rfl | (simp only [List.length_drop, List.length_take]; rfl)) ?_; (with_reducible refine (tattingref1_SamePairs.calls kj6 _ _ t200 _ _ l2 true _ ?side1 ?side2 ?side3 ?side4 A32.out).mono ?_); (case side1 => repeat (first | exact (Kd.R_reads' HO202.out).2.2 | (with_reducible refine Kd.C_alloc ?_ _) | (with_reducible refine Kd.C_drewN ?_ _) | (with_reducible refine Kd.C_drew ?_))); (case side2 => exact (Kd.R_reads' HO202.out).2.1); (case side3 => repeat (first | exact (Kd.C_below HR2.out HB.out) | (with_reducible refine Kd.C_alloc ?_ _) | (with_reducible refine Kd.C_drewN ?_ _) | (with_reducible refine Kd.C_drew ?_))); (case side4 => exact HC2.out); rintro e w' ⟨rfl, ⟨nd, rfl⟩⟩; refine ⟨_, rfl, ?_⟩) | (go_at_call 20; (with_reducible refine (tattingref7_Turn.calls kj6 _ _ l2 t204 _ ?side1 ?side2 A34.out).mono ?_); (case side1 => repeat (first | exact (Kd.C_below HR2.out (by repeat (first | (with_reducible first | exact HB.out | apply below_alloc | apply pw_below_drewN | apply below_drew1) | exact HB.out))) | (with_reducible refine Kd.C_alloc ?_ _) | (with_reducible refine Kd.C_drewN ?_ _) | (with_reducible refine Kd.C_drew ?_))); (case side2 => exact HC2.out); rintro e w42 ⟨v205, rfl, ho0, hb⟩; have n0_ := Aside0.mk (Kd.R_elder' (by (with_reducible repeat (first | apply Kd.R_alloc | apply Kd.R_drewN | apply Kd.R_drew)); exact HO184.out) (Kd.R_base ho0) hb); have n1_ := Aside0.mk (Kd.R_elder' (by (with_reducible repeat (first | apply Kd.R_alloc | apply Kd.R_drewN | apply Kd.R_drew)); exact HO187.out) (Kd.R_base ho0) hb); have n2_ := Aside0.mk (Kd.R_below (by (with_reducible repeat (first | apply Kd.R_alloc | apply Kd.R_drewN | apply Kd.R_drew)); exact HO193.out) hb); have n3_ := Aside0.mk (Kd.R_below (by (with_reducible repeat (first | apply Kd.R_alloc | apply Kd.R_drewN | apply Kd.R_drew)); exact HO199.out) hb); have n4_ := Aside0.mk (Kd.R_elder' (by (with_reducible repeat (first | apply Kd.R_alloc | apply Kd.R_drewN | apply Kd.R_drew)); exact HO202.out) (Kd.R_base ho0) hb); have n5_ := Aside0.mk (Kd.R_lower (Kd.R_new' (Kd.R_new' (Kd.R_new' ho0 (Kd.R_lt (by (with_reducible repeat (first | apply Kd.R_alloc | apply Kd.R_drewN | apply Kd.R_drew)); exact HO184.out))) (Kd.R_lt (by (with_reducible repeat (first | apply Kd.R_alloc | apply Kd.R_drewN | apply Kd.R_drew)); exact HO187.out))) (Kd.R_lt (by (with_reducible repeat (first | apply Kd.R_alloc | apply Kd.R_drewN | apply Kd.R_drew)); exact HO202.out))) (below_size (by repeat (first | (with_reducible first | exact HB.out | apply below_alloc | apply pw_below_drewN | apply below_drew1) | exact HB.out)))); have n6_ := Aside0.mk (below_step (by repeat (first | (with_reducible first | exact HB.out | apply below_alloc | apply pw_below_drewN | apply below_drew1) | exact HB.out)) hb); clear HO184; clear HO187; clear HO193; clear HO199; clear HO202; clear HB; have HO184 := n0_; have HO187 := n1_; have HO193 := n2_; have HO199 := n3_; have HO202 := n4_; have HO206 := n5_; have HB := n6_; clear n0_ n1_ n2_ n3_ n4_ n5_ n6_; (try clear hb); (try clear hb2); (try clear hk); (try clear hi); (try clear ho0); obtain ⟨Ao43, co43, eo43⟩ := Kd.R_slice HO206.out; subst eo43) | (go_at_call 19; (with_reducible refine (tattingref1_SamePairs.calls kj6 _ _ t182 _ _ t204 true _ ?side1 ?side2 ?side3 ?side4 A35.out).mono ?_); (case side1 => repeat (first | exact (Kd.R_reads' HO184.out).2.2 | (with_reducible refine Kd.C_alloc ?_ _) | (with_reducible refine Kd.C_drewN ?_ _) | (with_reducible refine Kd.C_drew ?_))); (case side2 => exact (Kd.R_reads' HO184.out).2.1); (case side3 => repeat (first | exact (Kd.R_reads' HO206.out).2.2 | (with_reducible refine Kd.C_alloc ?_ _) | (with_reducible refine Kd.C_drewN ?_ _) | (with_reducible refine Kd.C_drew ?_))); (case side4 => exact (Kd.R_reads' HO206.out).2.1); rintro e w' ⟨rfl, ⟨nd, rfl⟩⟩) | (go_at_call 21; (with_reducible refine (tattingref7_Move.calls kj6 _ _ l2 ji14 ji18 t208 _ ?side1 ?side2 A37.out).mono ?_); (case side1 => repeat (first | exact (Kd.C_below HR2.out (by repeat (first | (with_reducible first | exact HB.out | apply below_alloc | apply pw_below_drewN | apply below_drew1) | exact HB.out))) | (with_reducible refine Kd.C_alloc ?_ _) | (with_reducible refine Kd.C_drewN ?_ _) | (with_reducible refine Kd.C_drew ?_))); (case side2 => exact HC2.out); rintro e w44 ⟨v209, rfl, ho0, hb⟩; have n0_ := Aside0.mk (Kd.R_elder' (by (with_reducible repeat (first | apply Kd.R_alloc | apply Kd.R_drewN | apply Kd.R_drew)); exact HO184.out) (Kd.R_base ho0) hb); have n1_ := Aside0.mk (Kd.R_elder' (by (with_reducible repeat (first | apply Kd.R_alloc | apply Kd.R_drewN | apply Kd.R_drew)); exact HO187.out) (Kd.R_base ho0) hb); have n2_ := Aside0.mk (Kd.R_below (by (with_reducible repeat (first | apply Kd.R_alloc | apply Kd.R_drewN | apply Kd.R_drew)); exact HO193.out) hb); have n3_ := Aside0.mk (Kd.R_below (by (with_reducible repeat (first | apply Kd.R_alloc | apply Kd.R_drewN | apply Kd.R_drew)); exact HO199.out) hb); have n4_ := Aside0.mk (Kd.R_elder' (by (with_reducible repeat (first | apply Kd.R_alloc | apply Kd.R_drewN | apply Kd.R_drew)); exact HO202.out) (Kd.R_base ho0) hb); have n5_ := Aside0.mk (Kd.R_elder' (by (with_reducible repeat (first | apply Kd.R_alloc | apply Kd.R_drewN | apply Kd.R_drew)); exact HO206.out) (Kd.R_base ho0) hb); have n6_ := Aside0.mk (Kd.R_lower (Kd.R_new' (Kd.R_new' (Kd.R_new' (Kd.R_new' ho0 (Kd.R_lt (by (with_reducible repeat (first | apply Kd.R_alloc | apply Kd.R_drewN | apply Kd.R_drew)); exact HO184.out))) (Kd.R_lt (by (with_reducible repeat (first | apply Kd.R_alloc | apply Kd.R_drewN | apply Kd.R_drew)); exact HO187.out))) (Kd.R_lt (by (with_reducible repeat (first | apply Kd.R_alloc | apply Kd.R_drewN | apply Kd.R_drew)); exact HO202.out))) (Kd.R_lt (by (with_reducible repeat (first | apply Kd.R_alloc | apply Kd.R_drewN | apply Kd.R_drew)); exact HO206.out))) (below_size (by repeat (first | (with_reducible first | exact HB.out | apply below_alloc | apply pw_below_drewN | apply below_drew1) | exact HB.out)))); have n7_ := Aside0.mk (below_step (by repeat (first | (with_reducible first | exact HB.out | apply below_alloc | apply pw_below_drewN | apply below_drew1) | exact HB.out)) hb); clear HO184; clear HO187; clear HO193; clear HO199; clear HO202; clear HO206; clear HB; have HO184 := n0_; have HO187 := n1_; have HO193 := n2_; have HO199 := n3_; have HO202 := n4_; have HO206 := n5_; have HO210 := n6_; have HB := n7_; clear n0_ n1_ n2_ n3_ n4_ n5_ n6_ n7_; (try clear hb); (try clear hb2); (try clear hk); (try clear hi); (try clear ho0); obtain ⟨Ao45, co45, eo45⟩ := Kd.R_slice HO187.out; subst eo45; obtain ⟨Ao46, co46, eo46⟩ := Kd.R_slice HO210.out; subst eo46) | (go_at_call 19; (with_reducible refine (tattingref1_SamePairs.calls kj6 _ _ t185 _ _ t208 t211 _ ?side1 ?side2 ?side3 ?side4 A38.out).mono ?_); (case side1 => repeat (first | exact (Kd.R_reads' HO187.out).2.2 | (with_reducible refine Kd.C_alloc ?_ _) | (with_reducible refine Kd.C_drewN ?_ _) | (with_reducible refine Kd.C_drew ?_))); (case side2 => exact (Kd.R_reads' HO187.out).2.1); (case side3 => repeat (first | exact (Kd.R_reads' HO210.out).2.2 | (with_reducible refine Kd.C_alloc ?_ _) | (with_reducible refine Kd.C_drewN ?_ _) | (with_reducible refine Kd.C_drew ?_))); (case side4 => exact (Kd.R_reads' HO210.out).2.1); rintro e w' ⟨rfl, ⟨nd, rfl⟩⟩))
              go_meet
              case rel => exact ⟨_, (!t211), (by first | rfl | (simp; done) | (simp [*]; done)), H', ⟨by have := HJ6.out; first | omega | exact Nat.le_refl _⟩, ⟨by (with_reducible repeat (first | apply Kd.R_alloc | apply Kd.R_drewN | apply Kd.R_drew)); exact Kd.R_mono HO184.out (fun _ hk => hk.1.1.1.2)⟩, ⟨by (with_reducible repeat (first | apply Kd.R_alloc | apply Kd.R_drewN | apply Kd.R_drew)); exact Kd.R_mono HO187.out (fun _ hk => hk.1.1.1.2)⟩, ⟨by (with_reducible repeat (first | apply Kd.R_alloc | apply Kd.R_drewN | apply Kd.R_drew)); exact Kd.R_mono HO193.out (fun _ hk => hk.2)⟩, ⟨by (with_reducible repeat (first | apply Kd.R_alloc | apply Kd.R_drewN | apply Kd.R_drew)); exact HO199.out⟩, ⟨by repeat (first | (with_reducible first | exact HB.out | apply below_alloc | apply pw_below_drewN | apply below_drew1) | exact HB.out)⟩⟩
             ·replace c36 := Bool.eq_false_iff.mpr c36
              subst c36
              have H1 : (tattinglaw7_PairsTurns.j1 kj6 l0 l1 l2 t182 t185 y191 y197 true) = some r := by rw [if_neg (show ¬ (false = true) by decide)] at H; exact H
              clear H
              have H := H1
              clear H1
              have H' := Aside0.mk H
              clear H
              obtain ⟨Ao47, co47, eo47⟩ := Kd.R_slice HO184.out
              subst eo47
              go_wp2_with (first | ((with_reducible refine gate_callee (f := 11) rfl ?_); refine goesL_ (some 49) rfl rfl Try.func11 (by kernel_rfl) rfl #[.slice Ao47 t182.length co47] rfl (by (try simp only [List.map_toArray, List.map_cons, List.map_nil]); first | done | rfl | (simp only [List.length_drop, List.length_take]; rfl)) ?_; (with_reducible refine (pairs_Turn.calls kj6 _ _ t182 t200 _ ?side1 ?side2 A31.out).mono ?_); (case side1 => repeat (first | exact (Kd.R_reads' HO184.out).2.2 | (with_reducible refine Kd.C_alloc ?_ _) | (with_reducible refine Kd.C_drewN ?_ _) | (with_reducible refine Kd.C_drew ?_))); (case side2 => exact (Kd.R_reads' HO184.out).2.1); rintro e w48 ⟨v201, rfl, ho0, hb⟩; refine ⟨_, rfl, ?_⟩; have n0_ := Aside0.mk (Kd.R_elder' (by (with_reducible repeat (first | apply Kd.R_alloc | apply Kd.R_drewN | apply Kd.R_drew)); exact HO184.out) (Kd.R_base ho0) hb); have n1_ := Aside0.mk (Kd.R_elder' (by (with_reducible repeat (first | apply Kd.R_alloc | apply Kd.R_drewN | apply Kd.R_drew)); exact HO187.out) (Kd.R_base ho0) hb); have n2_ := Aside0.mk (Kd.R_below (by (with_reducible repeat (first | apply Kd.R_alloc | apply Kd.R_drewN | apply Kd.R_drew)); exact HO193.out) hb); have n3_ := Aside0.mk (Kd.R_below (by (with_reducible repeat (first | apply Kd.R_alloc | apply Kd.R_drewN | apply Kd.R_drew)); exact HO199.out) hb); have n4_ := Aside0.mk (Kd.R_lower (Kd.R_new' (Kd.R_new' ho0 (Kd.R_lt (by (with_reducible repeat (first | apply Kd.R_alloc | apply Kd.R_drewN | apply Kd.R_drew)); exact HO184.out))) (Kd.R_lt (by (with_reducible repeat (first | apply Kd.R_alloc | apply Kd.R_drewN | apply Kd.R_drew)); exact HO187.out))) (below_size (by repeat (first | (with_reducible first | exact HB.out | apply below_alloc | apply pw_below_drewN | apply below_drew1) | exact HB.out)))); have n5_ := Aside0.mk (below_step (by repeat (first | (with_reducible first | exact HB.out | apply below_alloc | apply pw_below_drewN | apply below_drew1) | exact HB.out)) hb); clear HO184; clear HO187; clear HO193; clear HO199; clear HB; have HO184 := n0_; have HO187 := n1_; have HO193 := n2_; have HO199 := n3_; have HO202 := n4_; have HB := n5_; clear n0_ n1_ n2_ n3_ n4_ n5_; (try clear hb); (try clear hb2); (try clear hk); (try clear hi); (try clear ho0); obtain ⟨Ao49, co49, eo49⟩ := Kd.R_slice HO202.out; subst eo49) | ((with_reducible refine gate_callee (f := 19) rfl ?_); refine goesL_ (some 51) rfl rfl Try.func19 (by kernel_rfl) rfl #[.slice Ao49 t200.length co49, .slice A2 l2.length c2] rfl (by (try simp only [List.map_toArray, List.map_cons, List.map_nil]); first | done | rfl | (simp only [List.length_drop, List.length_take]; rfl)) ?_; (with_reducible refine (tattingref1_SamePairs.calls kj6 _ _ t200 _ _ l2 true _ ?side1 ?side2 ?side3 ?side4 A32.out).mono ?_); (case side1 => repeat (first | exact (Kd.R_reads' HO202.out).2.2 | (with_reducible refine Kd.C_alloc ?_ _) | (with_reducible refine Kd.C_drewN ?_ _) | (with_reducible refine Kd.C_drew ?_))); (case side2 => exact (Kd.R_reads' HO202.out).2.1); (case side3 => repeat (first | exact (Kd.C_below HR2.out HB.out) | (with_reducible refine Kd.C_alloc ?_ _) | (with_reducible refine Kd.C_drewN ?_ _) | (with_reducible refine Kd.C_drew ?_))); (case side4 => exact HC2.out); rintro e w' ⟨rfl, ⟨nd, rfl⟩⟩; refine ⟨_, rfl, ?_⟩) | (go_at_call 20; (with_reducible refine (tattingref7_Turn.calls kj6 _ _ l2 t204 _ ?side1 ?side2 A34.out).mono ?_); (case side1 => repeat (first | exact (Kd.C_below HR2.out (by repeat (first | (with_reducible first | exact HB.out | apply below_alloc | apply pw_below_drewN | apply below_drew1) | exact HB.out))) | (with_reducible refine Kd.C_alloc ?_ _) | (with_reducible refine Kd.C_drewN ?_ _) | (with_reducible refine Kd.C_drew ?_))); (case side2 => exact HC2.out); rintro e w50 ⟨v205, rfl, ho0, hb⟩; have n0_ := Aside0.mk (Kd.R_elder' (by (with_reducible repeat (first | apply Kd.R_alloc | apply Kd.R_drewN | apply Kd.R_drew)); exact HO184.out) (Kd.R_base ho0) hb); have n1_ := Aside0.mk (Kd.R_elder' (by (with_reducible repeat (first | apply Kd.R_alloc | apply Kd.R_drewN | apply Kd.R_drew)); exact HO187.out) (Kd.R_base ho0) hb); have n2_ := Aside0.mk (Kd.R_below (by (with_reducible repeat (first | apply Kd.R_alloc | apply Kd.R_drewN | apply Kd.R_drew)); exact HO193.out) hb); have n3_ := Aside0.mk (Kd.R_below (by (with_reducible repeat (first | apply Kd.R_alloc | apply Kd.R_drewN | apply Kd.R_drew)); exact HO199.out) hb); have n4_ := Aside0.mk (Kd.R_elder' (by (with_reducible repeat (first | apply Kd.R_alloc | apply Kd.R_drewN | apply Kd.R_drew)); exact HO202.out) (Kd.R_base ho0) hb); have n5_ := Aside0.mk (Kd.R_lower (Kd.R_new' (Kd.R_new' (Kd.R_new' ho0 (Kd.R_lt (by (with_reducible repeat (first | apply Kd.R_alloc | apply Kd.R_drewN | apply Kd.R_drew)); exact HO184.out))) (Kd.R_lt (by (with_reducible repeat (first | apply Kd.R_alloc | apply Kd.R_drewN | apply Kd.R_drew)); exact HO187.out))) (Kd.R_lt (by (with_reducible repeat (first | apply Kd.R_alloc | apply Kd.R_drewN | apply Kd.R_drew)); exact HO202.out))) (below_size (by repeat (first | (with_reducible first | exact HB.out | apply below_alloc | apply pw_below_drewN | apply below_drew1) | exact HB.out)))); have n6_ := Aside0.mk (below_step (by repeat (first | (with_reducible first | exact HB.out | apply below_alloc | apply pw_below_drewN | apply below_drew1) | exact HB.out)) hb); clear HO184; clear HO187; clear HO193; clear HO199; clear HO202; clear HB; have HO184 := n0_; have HO187 := n1_; have HO193 := n2_; have HO199 := n3_; have HO202 := n4_; have HO206 := n5_; have HB := n6_; clear n0_ n1_ n2_ n3_ n4_ n5_ n6_; (try clear hb); (try clear hb2); (try clear hk); (try clear hi); (try clear ho0); obtain ⟨Ao51, co51, eo51⟩ := Kd.R_slice HO206.out; subst eo51) | (go_at_call 19; (with_reducible refine (tattingref1_SamePairs.calls kj6 _ _ t182 _ _ t204 false _ ?side1 ?side2 ?side3 ?side4 A35.out).mono ?_); (case side1 => repeat (first | exact (Kd.R_reads' HO184.out).2.2 | (with_reducible refine Kd.C_alloc ?_ _) | (with_reducible refine Kd.C_drewN ?_ _) | (with_reducible refine Kd.C_drew ?_))); (case side2 => exact (Kd.R_reads' HO184.out).2.1); (case side3 => repeat (first | exact (Kd.R_reads' HO206.out).2.2 | (with_reducible refine Kd.C_alloc ?_ _) | (with_reducible refine Kd.C_drewN ?_ _) | (with_reducible refine Kd.C_drew ?_))); (case side4 => exact (Kd.R_reads' HO206.out).2.1); rintro e w' ⟨rfl, ⟨nd, rfl⟩⟩))
              go_meet
              case rel => exact ⟨_, (true), (by first | rfl | (simp; done) | (simp [*]; done)), H', ⟨by have := HJ6.out; first | omega | exact Nat.le_refl _⟩, ⟨by (with_reducible repeat (first | apply Kd.R_alloc | apply Kd.R_drewN | apply Kd.R_drew)); exact Kd.R_mono HO184.out (fun _ hk => hk.1.1.2)⟩, ⟨by (with_reducible repeat (first | apply Kd.R_alloc | apply Kd.R_drewN | apply Kd.R_drew)); exact Kd.R_mono HO187.out (fun _ hk => hk.1.1.2)⟩, ⟨by (with_reducible repeat (first | apply Kd.R_alloc | apply Kd.R_drewN | apply Kd.R_drew)); exact Kd.R_mono HO193.out (fun _ hk => hk.2)⟩, ⟨by (with_reducible repeat (first | apply Kd.R_alloc | apply Kd.R_drewN | apply Kd.R_drew)); exact HO199.out⟩, ⟨by repeat (first | (with_reducible first | exact HB.out | apply below_alloc | apply pw_below_drewN | apply below_drew1) | exact HB.out)⟩⟩
            ·replace c33 := Bool.eq_false_iff.mpr c33
             subst c33
             have H1 : (tattinglaw7_PairsTurns.j1 kj6 l0 l1 l2 t182 t185 y191 y197 true) = some r := by rw [if_neg (show ¬ (false = true) by decide)] at H; exact H
             clear H
             have H := H1
             clear H1
             have H' := Aside0.mk H
             clear H
             obtain ⟨Ao52, co52, eo52⟩ := Kd.R_slice HO184.out
             subst eo52
             go_wp2_with (first | ((with_reducible refine gate_callee (f := 11) rfl ?_); refine goesL_ (some 49) rfl rfl Try.func11 (by kernel_rfl) rfl #[.slice Ao52 t182.length co52] rfl (by (try simp only [List.map_toArray, List.map_cons, List.map_nil]); first | done | rfl | (simp only [List.length_drop, List.length_take]; rfl)) ?_; (with_reducible refine (pairs_Turn.calls kj6 _ _ t182 t200 _ ?side1 ?side2 A31.out).mono ?_); (case side1 => repeat (first | exact (Kd.R_reads' HO184.out).2.2 | (with_reducible refine Kd.C_alloc ?_ _) | (with_reducible refine Kd.C_drewN ?_ _) | (with_reducible refine Kd.C_drew ?_))); (case side2 => exact (Kd.R_reads' HO184.out).2.1); rintro e w53 ⟨v201, rfl, ho0, hb⟩; refine ⟨_, rfl, ?_⟩; have n0_ := Aside0.mk (Kd.R_elder' (by (with_reducible repeat (first | apply Kd.R_alloc | apply Kd.R_drewN | apply Kd.R_drew)); exact HO184.out) (Kd.R_base ho0) hb); have n1_ := Aside0.mk (Kd.R_elder' (by (with_reducible repeat (first | apply Kd.R_alloc | apply Kd.R_drewN | apply Kd.R_drew)); exact HO187.out) (Kd.R_base ho0) hb); have n2_ := Aside0.mk (Kd.R_below (by (with_reducible repeat (first | apply Kd.R_alloc | apply Kd.R_drewN | apply Kd.R_drew)); exact HO193.out) hb); have n3_ := Aside0.mk (Kd.R_below (by (with_reducible repeat (first | apply Kd.R_alloc | apply Kd.R_drewN | apply Kd.R_drew)); exact HO199.out) hb); have n4_ := Aside0.mk (Kd.R_lower (Kd.R_new' (Kd.R_new' ho0 (Kd.R_lt (by (with_reducible repeat (first | apply Kd.R_alloc | apply Kd.R_drewN | apply Kd.R_drew)); exact HO184.out))) (Kd.R_lt (by (with_reducible repeat (first | apply Kd.R_alloc | apply Kd.R_drewN | apply Kd.R_drew)); exact HO187.out))) (below_size (by repeat (first | (with_reducible first | exact HB.out | apply below_alloc | apply pw_below_drewN | apply below_drew1) | exact HB.out)))); have n5_ := Aside0.mk (below_step (by repeat (first | (with_reducible first | exact HB.out | apply below_alloc | apply pw_below_drewN | apply below_drew1) | exact HB.out)) hb); clear HO184; clear HO187; clear HO193; clear HO199; clear HB; have HO184 := n0_; have HO187 := n1_; have HO193 := n2_; have HO199 := n3_; have HO202 := n4_; have HB := n5_; clear n0_ n1_ n2_ n3_ n4_ n5_; (try clear hb); (try clear hb2); (try clear hk); (try clear hi); (try clear ho0); obtain ⟨Ao54, co54, eo54⟩ := Kd.R_slice HO202.out; subst eo54) | ((with_reducible refine gate_callee (f := 19) rfl ?_); refine goesL_ (some 51) rfl rfl Try.func19 (by kernel_rfl) rfl #[.slice Ao54 t200.length co54, .slice A2 l2.length c2] rfl (by (try simp only [List.map_toArray, List.map_cons, List.map_nil]); first | done | rfl | (simp only [List.length_drop, List.length_take]; rfl)) ?_; (with_reducible refine (tattingref1_SamePairs.calls kj6 _ _ t200 _ _ l2 false _ ?side1 ?side2 ?side3 ?side4 A32.out).mono ?_); (case side1 => repeat (first | exact (Kd.R_reads' HO202.out).2.2 | (with_reducible refine Kd.C_alloc ?_ _) | (with_reducible refine Kd.C_drewN ?_ _) | (with_reducible refine Kd.C_drew ?_))); (case side2 => exact (Kd.R_reads' HO202.out).2.1); (case side3 => repeat (first | exact (Kd.C_below HR2.out HB.out) | (with_reducible refine Kd.C_alloc ?_ _) | (with_reducible refine Kd.C_drewN ?_ _) | (with_reducible refine Kd.C_drew ?_))); (case side4 => exact HC2.out); rintro e w' ⟨rfl, ⟨nd, rfl⟩⟩; refine ⟨_, rfl, ?_⟩))
             go_meet
             case rel => exact ⟨_, (true), (by first | rfl | (simp; done) | (simp [*]; done)), H', ⟨by have := HJ6.out; first | omega | exact Nat.le_refl _⟩, ⟨by (with_reducible repeat (first | apply Kd.R_alloc | apply Kd.R_drewN | apply Kd.R_drew)); exact Kd.R_mono HO184.out (fun _ hk => hk.1.2)⟩, ⟨by (with_reducible repeat (first | apply Kd.R_alloc | apply Kd.R_drewN | apply Kd.R_drew)); exact Kd.R_mono HO187.out (fun _ hk => hk.1.2)⟩, ⟨by (with_reducible repeat (first | apply Kd.R_alloc | apply Kd.R_drewN | apply Kd.R_drew)); exact Kd.R_mono HO193.out (fun _ hk => hk.2)⟩, ⟨by (with_reducible repeat (first | apply Kd.R_alloc | apply Kd.R_drewN | apply Kd.R_drew)); exact HO199.out⟩, ⟨by repeat (first | (with_reducible first | exact HB.out | apply below_alloc | apply pw_below_drewN | apply below_drew1) | exact HB.out)⟩⟩
           case rest =>
            clear HC22
            try clear c1
            try clear c2
            try clear p2
            try clear c3
            try clear c6
            try clear p6
            try clear c7
            try clear c9
            try clear c9b0
            try clear c9b1
            try clear c10
            try clear c10b0
            try clear c10b1
            try clear c11
            try clear c13
            try clear c15
            try clear c15b0
            try clear c15b1
            try clear c16
            try clear c16b0
            try clear c16b1
            try clear c17
            try clear c19
            try clear c19b0
            try clear c19b1
            try clear c20
            try clear c20b0
            try clear c20b1
            try clear c21
            try clear c33
            try clear c36
            try clear p2
            obtain ⟨kq, x69_21, rfl, HA, HJ21, HO_10, HO_11, HO_12, HO_13, HB⟩ := hcut
            cases kq with
            | zero => exact absurd HA.out (by simp [tattinglaw7_PairsTurns.j1])
            | succ kj21 =>
             have H := HA.out
             clear HA
             simp only [tattinglaw7_PairsTurns.j1] at H
             by_cases c55 : x69_21 = true
             ·subst c55
              have H1 : (some false) = some r := by rw [if_pos rfl] at H; exact H
              clear H
              have H := H1
              clear H1
              exact absurd (Option.some.inj H) (by rw [hr_]; decide)
             ·replace c55 := Bool.eq_false_iff.mpr c55
              subst c55
              have H1 : ((pairs_Good.f kj21 l1 l0 t182).bind fun t212 => ((pairs_Good.f kj21 l0 l1 l2).bind fun t213 => (if (t212 == t213) = true then ((pairs_Good.f kj21 l0 l1 l2).bind fun t214 => (if t214 = true then ((pairs_Good.f kj21 y191 y197 t185).bind fun t215 => (some t215)) else (some true))) else (some false)))) = some r := by rw [if_neg (show ¬ (false = true) by decide)] at H; exact H
              clear H
              have H := H1
              clear H1
              replace H := Option.bind_eq_some_iff.mp H
              obtain ⟨t212, A560, H⟩ := H
              replace H : ((pairs_Good.f kj21 l0 l1 l2).bind fun t213 => (if (t212 == t213) = true then ((pairs_Good.f kj21 l0 l1 l2).bind fun t214 => (if t214 = true then ((pairs_Good.f kj21 y191 y197 t185).bind fun t215 => (some t215)) else (some true))) else (some false))) = some r := H
              have A56 := Aside0.mk A560
              clear A560
              replace H := Option.bind_eq_some_iff.mp H
              obtain ⟨t213, A570, H⟩ := H
              replace H : (if (t212 == t213) = true then ((pairs_Good.f kj21 l0 l1 l2).bind fun t214 => (if t214 = true then ((pairs_Good.f kj21 y191 y197 t185).bind fun t215 => (some t215)) else (some true))) else (some false)) = some r := H
              have A57 := Aside0.mk A570
              clear A570
              by_cases c58 : (t212 == t213) = true
              ·rw [if_pos c58] at H
               have c58b0 : (t212 == t213) = true := c58
               (try (have c58b1 : decide (t212 = t213) = true := by simpa using c58))
               (try (have c58b2 : (t212 == t213) = true := by simpa using c58))
               clear c58
               replace H := Option.bind_eq_some_iff.mp H
               obtain ⟨t214, A590, H⟩ := H
               replace H : (if t214 = true then ((pairs_Good.f kj21 y191 y197 t185).bind fun t215 => (some t215)) else (some true)) = some r := H
               have A59 := Aside0.mk A590
               clear A590
               by_cases c60 : t214 = true
               ·subst c60
                have H1 : ((pairs_Good.f kj21 y191 y197 t185).bind fun t215 => (some t215)) = some r := by rw [if_pos rfl] at H; exact H
                clear H
                have H := H1
                clear H1
                replace H := Option.bind_eq_some_iff.mp H
                obtain ⟨t215, A610, H⟩ := H
                replace H : (some t215) = some r := H
                have A61 := Aside0.mk A610
                clear A610
                obtain rfl := Option.some.inj H
                obtain ⟨Ao62, co62, eo62⟩ := Kd.R_slice HO_10.out
                subst eo62
                go_wp2_with (first | ((with_reducible refine gate_callee (f := 14) rfl ?_); refine goesL_ (some 73) rfl rfl Try.func14 (by kernel_rfl) rfl #[.slice A1 l1.length c1, .slice A0 l0.length c0, .slice Ao62 t182.length co62] rfl (by (try simp only [List.map_toArray, List.map_cons, List.map_nil]); first | done | rfl | (simp only [List.length_drop, List.length_take]; rfl)) ?_; (with_reducible refine (pairs_Good.calls kj21 _ _ l1 _ _ l0 _ _ t182 t212 _ ?side1 ?side2 ?side3 ?side4 ?side5 ?side6 A56.out).mono ?_); (case side1 => repeat (first | exact (Kd.C_below HR1.out HB.out) | (with_reducible refine Kd.C_alloc ?_ _) | (with_reducible refine Kd.C_drewN ?_ _) | (with_reducible refine Kd.C_drew ?_))); (case side2 => exact HC1.out); (case side3 => repeat (first | exact (Kd.C_below HR0.out HB.out) | (with_reducible refine Kd.C_alloc ?_ _) | (with_reducible refine Kd.C_drewN ?_ _) | (with_reducible refine Kd.C_drew ?_))); (case side4 => exact HC0.out); (case side5 => repeat (first | exact (Kd.R_reads' HO_10.out).2.2 | (with_reducible refine Kd.C_alloc ?_ _) | (with_reducible refine Kd.C_drewN ?_ _) | (with_reducible refine Kd.C_drew ?_))); (case side6 => exact (Kd.R_reads' HO_10.out).2.1); rintro e w63 ⟨rfl, hb⟩; refine ⟨_, rfl, ?_⟩; have n0_ := Aside0.mk (Kd.R_below (by (with_reducible repeat (first | apply Kd.R_alloc | apply Kd.R_drewN | apply Kd.R_drew)); exact HO_10.out) hb); have n1_ := Aside0.mk (Kd.R_below (by (with_reducible repeat (first | apply Kd.R_alloc | apply Kd.R_drewN | apply Kd.R_drew)); exact HO_11.out) hb); have n2_ := Aside0.mk (Kd.R_below (by (with_reducible repeat (first | apply Kd.R_alloc | apply Kd.R_drewN | apply Kd.R_drew)); exact HO_12.out) hb); have n3_ := Aside0.mk (Kd.R_below (by (with_reducible repeat (first | apply Kd.R_alloc | apply Kd.R_drewN | apply Kd.R_drew)); exact HO_13.out) hb); have n4_ := Aside0.mk (below_step (by repeat (first | (with_reducible first | exact HB.out | apply below_alloc | apply pw_below_drewN | apply below_drew1) | exact HB.out)) hb); clear HO_10; clear HO_11; clear HO_12; clear HO_13; clear HB; have HO_10 := n0_; have HO_11 := n1_; have HO_12 := n2_; have HO_13 := n3_; have HB := n4_; clear n0_ n1_ n2_ n3_ n4_; (try clear hb); (try clear hb2); (try clear hk); (try clear hi)) | ((with_reducible refine gate_callee (f := 14) rfl ?_); refine goesL_ (some 77) rfl rfl Try.func14 (by kernel_rfl) rfl #[.slice A0 l0.length c0, .slice A1 l1.length c1, .slice A2 l2.length c2] rfl (by (try simp only [List.map_toArray, List.map_cons, List.map_nil]); first | done | rfl | (simp only [List.length_drop, List.length_take]; rfl)) ?_; (with_reducible refine (pairs_Good.calls kj21 _ _ l0 _ _ l1 _ _ l2 t213 _ ?side1 ?side2 ?side3 ?side4 ?side5 ?side6 A57.out).mono ?_); (case side1 => repeat (first | exact (Kd.C_below HR0.out HB.out) | (with_reducible refine Kd.C_alloc ?_ _) | (with_reducible refine Kd.C_drewN ?_ _) | (with_reducible refine Kd.C_drew ?_))); (case side2 => exact HC0.out); (case side3 => repeat (first | exact (Kd.C_below HR1.out HB.out) | (with_reducible refine Kd.C_alloc ?_ _) | (with_reducible refine Kd.C_drewN ?_ _) | (with_reducible refine Kd.C_drew ?_))); (case side4 => exact HC1.out); (case side5 => repeat (first | exact (Kd.C_below HR2.out HB.out) | (with_reducible refine Kd.C_alloc ?_ _) | (with_reducible refine Kd.C_drewN ?_ _) | (with_reducible refine Kd.C_drew ?_))); (case side6 => exact HC2.out); rintro e w64 ⟨rfl, hb⟩; refine ⟨_, rfl, ?_⟩; have n0_ := Aside0.mk (Kd.R_below (by (with_reducible repeat (first | apply Kd.R_alloc | apply Kd.R_drewN | apply Kd.R_drew)); exact HO_10.out) hb); have n1_ := Aside0.mk (Kd.R_below (by (with_reducible repeat (first | apply Kd.R_alloc | apply Kd.R_drewN | apply Kd.R_drew)); exact HO_11.out) hb); have n2_ := Aside0.mk (Kd.R_below (by (with_reducible repeat (first | apply Kd.R_alloc | apply Kd.R_drewN | apply Kd.R_drew)); exact HO_12.out) hb); have n3_ := Aside0.mk (Kd.R_below (by (with_reducible repeat (first | apply Kd.R_alloc | apply Kd.R_drewN | apply Kd.R_drew)); exact HO_13.out) hb); have n4_ := Aside0.mk (below_step (by repeat (first | (with_reducible first | exact HB.out | apply below_alloc | apply pw_below_drewN | apply below_drew1) | exact HB.out)) hb); clear HO_10; clear HO_11; clear HO_12; clear HO_13; clear HB; have HO_10 := n0_; have HO_11 := n1_; have HO_12 := n2_; have HO_13 := n3_; have HB := n4_; clear n0_ n1_ n2_ n3_ n4_; (try clear hb); (try clear hb2); (try clear hk); (try clear hi)) | (go_at_call 14; (with_reducible refine (pairs_Good.calls kj21 _ _ l0 _ _ l1 _ _ l2 true _ ?side1 ?side2 ?side3 ?side4 ?side5 ?side6 A59.out).mono ?_); (case side1 => repeat (first | exact (Kd.C_below HR0.out HB.out) | (with_reducible refine Kd.C_alloc ?_ _) | (with_reducible refine Kd.C_drewN ?_ _) | (with_reducible refine Kd.C_drew ?_))); (case side2 => exact HC0.out); (case side3 => repeat (first | exact (Kd.C_below HR1.out HB.out) | (with_reducible refine Kd.C_alloc ?_ _) | (with_reducible refine Kd.C_drewN ?_ _) | (with_reducible refine Kd.C_drew ?_))); (case side4 => exact HC1.out); (case side5 => repeat (first | exact (Kd.C_below HR2.out HB.out) | (with_reducible refine Kd.C_alloc ?_ _) | (with_reducible refine Kd.C_drewN ?_ _) | (with_reducible refine Kd.C_drew ?_))); (case side6 => exact HC2.out); rintro e w65 ⟨rfl, hb⟩; have n0_ := Aside0.mk (Kd.R_below (by (with_reducible repeat (first | apply Kd.R_alloc | apply Kd.R_drewN | apply Kd.R_drew)); exact HO_10.out) hb); have n1_ := Aside0.mk (Kd.R_below (by (with_reducible repeat (first | apply Kd.R_alloc | apply Kd.R_drewN | apply Kd.R_drew)); exact HO_11.out) hb); have n2_ := Aside0.mk (Kd.R_below (by (with_reducible repeat (first | apply Kd.R_alloc | apply Kd.R_drewN | apply Kd.R_drew)); exact HO_12.out) hb); have n3_ := Aside0.mk (Kd.R_below (by (with_reducible repeat (first | apply Kd.R_alloc | apply Kd.R_drewN | apply Kd.R_drew)); exact HO_13.out) hb); have n4_ := Aside0.mk (below_step (by repeat (first | (with_reducible first | exact HB.out | apply below_alloc | apply pw_below_drewN | apply below_drew1) | exact HB.out)) hb); clear HO_10; clear HO_11; clear HO_12; clear HO_13; clear HB; have HO_10 := n0_; have HO_11 := n1_; have HO_12 := n2_; have HO_13 := n3_; have HB := n4_; clear n0_ n1_ n2_ n3_ n4_; (try clear hb); (try clear hb2); (try clear hk); (try clear hi); obtain ⟨Ao66, co66, eo66⟩ := Kd.R_slice HO_12.out; subst eo66; obtain ⟨Ao67, co67, eo67⟩ := Kd.R_slice HO_13.out; subst eo67; obtain ⟨Ao68, co68, eo68⟩ := Kd.R_slice HO_11.out; subst eo68) | (go_at_call 14; (with_reducible refine (pairs_Good.calls kj21 _ _ y191 _ _ y197 _ _ t185 t215 _ ?side1 ?side2 ?side3 ?side4 ?side5 ?side6 A61.out).mono ?_); (case side1 => repeat (first | exact (Kd.R_reads' HO_12.out).2.2 | (with_reducible refine Kd.C_alloc ?_ _) | (with_reducible refine Kd.C_drewN ?_ _) | (with_reducible refine Kd.C_drew ?_))); (case side2 => exact (Kd.R_reads' HO_12.out).2.1); (case side3 => repeat (first | exact (Kd.R_reads' HO_13.out).2.2 | (with_reducible refine Kd.C_alloc ?_ _) | (with_reducible refine Kd.C_drewN ?_ _) | (with_reducible refine Kd.C_drew ?_))); (case side4 => exact (Kd.R_reads' HO_13.out).2.1); (case side5 => repeat (first | exact (Kd.R_reads' HO_11.out).2.2 | (with_reducible refine Kd.C_alloc ?_ _) | (with_reducible refine Kd.C_drewN ?_ _) | (with_reducible refine Kd.C_drew ?_))); (case side6 => exact (Kd.R_reads' HO_11.out).2.1); rintro e w69 ⟨rfl, hb⟩; have n0_ := Aside0.mk (Kd.R_below (by (with_reducible repeat (first | apply Kd.R_alloc | apply Kd.R_drewN | apply Kd.R_drew)); exact HO_10.out) hb); have n1_ := Aside0.mk (Kd.R_below (by (with_reducible repeat (first | apply Kd.R_alloc | apply Kd.R_drewN | apply Kd.R_drew)); exact HO_11.out) hb); have n2_ := Aside0.mk (Kd.R_below (by (with_reducible repeat (first | apply Kd.R_alloc | apply Kd.R_drewN | apply Kd.R_drew)); exact HO_12.out) hb); have n3_ := Aside0.mk (Kd.R_below (by (with_reducible repeat (first | apply Kd.R_alloc | apply Kd.R_drewN | apply Kd.R_drew)); exact HO_13.out) hb); have n4_ := Aside0.mk (below_step (by repeat (first | (with_reducible first | exact HB.out | apply below_alloc | apply pw_below_drewN | apply below_drew1) | exact HB.out)) hb); clear HO_10; clear HO_11; clear HO_12; clear HO_13; clear HB; have HO_10 := n0_; have HO_11 := n1_; have HO_12 := n2_; have HO_13 := n3_; have HB := n4_; clear n0_ n1_ n2_ n3_ n4_; (try clear hb); (try clear hb2); (try clear hk); (try clear hi)))
                go_ret
                exact ⟨by first | rfl | (simp [errW_none, errW_some] <;> rfl) | (simp only [← hji14, ← hji18]; first | rfl | (simp [errW_none, errW_some] <;> rfl)) | (simp [*, errW_none, errW_some] <;> rfl), by repeat (first | (with_reducible first | exact HB.out | apply below_alloc | apply pw_below_drewN | apply below_drew1) | exact HB.out)⟩
               ·replace c60 := Bool.eq_false_iff.mpr c60
                subst c60
                have H1 : (some true) = some r := by rw [if_neg (show ¬ (false = true) by decide)] at H; exact H
                clear H
                have H := H1
                clear H1
                obtain rfl := Option.some.inj H
                obtain ⟨Ao70, co70, eo70⟩ := Kd.R_slice HO_10.out
                subst eo70
                go_wp2_with (first | ((with_reducible refine gate_callee (f := 14) rfl ?_); refine goesL_ (some 73) rfl rfl Try.func14 (by kernel_rfl) rfl #[.slice A1 l1.length c1, .slice A0 l0.length c0, .slice Ao70 t182.length co70] rfl (by (try simp only [List.map_toArray, List.map_cons, List.map_nil]); first | done | rfl | (simp only [List.length_drop, List.length_take]; rfl)) ?_; (with_reducible refine (pairs_Good.calls kj21 _ _ l1 _ _ l0 _ _ t182 t212 _ ?side1 ?side2 ?side3 ?side4 ?side5 ?side6 A56.out).mono ?_); (case side1 => repeat (first | exact (Kd.C_below HR1.out HB.out) | (with_reducible refine Kd.C_alloc ?_ _) | (with_reducible refine Kd.C_drewN ?_ _) | (with_reducible refine Kd.C_drew ?_))); (case side2 => exact HC1.out); (case side3 => repeat (first | exact (Kd.C_below HR0.out HB.out) | (with_reducible refine Kd.C_alloc ?_ _) | (with_reducible refine Kd.C_drewN ?_ _) | (with_reducible refine Kd.C_drew ?_))); (case side4 => exact HC0.out); (case side5 => repeat (first | exact (Kd.R_reads' HO_10.out).2.2 | (with_reducible refine Kd.C_alloc ?_ _) | (with_reducible refine Kd.C_drewN ?_ _) | (with_reducible refine Kd.C_drew ?_))); (case side6 => exact (Kd.R_reads' HO_10.out).2.1); rintro e w71 ⟨rfl, hb⟩; refine ⟨_, rfl, ?_⟩; have n0_ := Aside0.mk (Kd.R_below (by (with_reducible repeat (first | apply Kd.R_alloc | apply Kd.R_drewN | apply Kd.R_drew)); exact HO_10.out) hb); have n1_ := Aside0.mk (Kd.R_below (by (with_reducible repeat (first | apply Kd.R_alloc | apply Kd.R_drewN | apply Kd.R_drew)); exact HO_11.out) hb); have n2_ := Aside0.mk (Kd.R_below (by (with_reducible repeat (first | apply Kd.R_alloc | apply Kd.R_drewN | apply Kd.R_drew)); exact HO_12.out) hb); have n3_ := Aside0.mk (Kd.R_below (by (with_reducible repeat (first | apply Kd.R_alloc | apply Kd.R_drewN | apply Kd.R_drew)); exact HO_13.out) hb); have n4_ := Aside0.mk (below_step (by repeat (first | (with_reducible first | exact HB.out | apply below_alloc | apply pw_below_drewN | apply below_drew1) | exact HB.out)) hb); clear HO_10; clear HO_11; clear HO_12; clear HO_13; clear HB; have HO_10 := n0_; have HO_11 := n1_; have HO_12 := n2_; have HO_13 := n3_; have HB := n4_; clear n0_ n1_ n2_ n3_ n4_; (try clear hb); (try clear hb2); (try clear hk); (try clear hi)) | ((with_reducible refine gate_callee (f := 14) rfl ?_); refine goesL_ (some 77) rfl rfl Try.func14 (by kernel_rfl) rfl #[.slice A0 l0.length c0, .slice A1 l1.length c1, .slice A2 l2.length c2] rfl (by (try simp only [List.map_toArray, List.map_cons, List.map_nil]); first | done | rfl | (simp only [List.length_drop, List.length_take]; rfl)) ?_; (with_reducible refine (pairs_Good.calls kj21 _ _ l0 _ _ l1 _ _ l2 t213 _ ?side1 ?side2 ?side3 ?side4 ?side5 ?side6 A57.out).mono ?_); (case side1 => repeat (first | exact (Kd.C_below HR0.out HB.out) | (with_reducible refine Kd.C_alloc ?_ _) | (with_reducible refine Kd.C_drewN ?_ _) | (with_reducible refine Kd.C_drew ?_))); (case side2 => exact HC0.out); (case side3 => repeat (first | exact (Kd.C_below HR1.out HB.out) | (with_reducible refine Kd.C_alloc ?_ _) | (with_reducible refine Kd.C_drewN ?_ _) | (with_reducible refine Kd.C_drew ?_))); (case side4 => exact HC1.out); (case side5 => repeat (first | exact (Kd.C_below HR2.out HB.out) | (with_reducible refine Kd.C_alloc ?_ _) | (with_reducible refine Kd.C_drewN ?_ _) | (with_reducible refine Kd.C_drew ?_))); (case side6 => exact HC2.out); rintro e w72 ⟨rfl, hb⟩; refine ⟨_, rfl, ?_⟩; have n0_ := Aside0.mk (Kd.R_below (by (with_reducible repeat (first | apply Kd.R_alloc | apply Kd.R_drewN | apply Kd.R_drew)); exact HO_10.out) hb); have n1_ := Aside0.mk (Kd.R_below (by (with_reducible repeat (first | apply Kd.R_alloc | apply Kd.R_drewN | apply Kd.R_drew)); exact HO_11.out) hb); have n2_ := Aside0.mk (Kd.R_below (by (with_reducible repeat (first | apply Kd.R_alloc | apply Kd.R_drewN | apply Kd.R_drew)); exact HO_12.out) hb); have n3_ := Aside0.mk (Kd.R_below (by (with_reducible repeat (first | apply Kd.R_alloc | apply Kd.R_drewN | apply Kd.R_drew)); exact HO_13.out) hb); have n4_ := Aside0.mk (below_step (by repeat (first | (with_reducible first | exact HB.out | apply below_alloc | apply pw_below_drewN | apply below_drew1) | exact HB.out)) hb); clear HO_10; clear HO_11; clear HO_12; clear HO_13; clear HB; have HO_10 := n0_; have HO_11 := n1_; have HO_12 := n2_; have HO_13 := n3_; have HB := n4_; clear n0_ n1_ n2_ n3_ n4_; (try clear hb); (try clear hb2); (try clear hk); (try clear hi)) | (go_at_call 14; (with_reducible refine (pairs_Good.calls kj21 _ _ l0 _ _ l1 _ _ l2 false _ ?side1 ?side2 ?side3 ?side4 ?side5 ?side6 A59.out).mono ?_); (case side1 => repeat (first | exact (Kd.C_below HR0.out HB.out) | (with_reducible refine Kd.C_alloc ?_ _) | (with_reducible refine Kd.C_drewN ?_ _) | (with_reducible refine Kd.C_drew ?_))); (case side2 => exact HC0.out); (case side3 => repeat (first | exact (Kd.C_below HR1.out HB.out) | (with_reducible refine Kd.C_alloc ?_ _) | (with_reducible refine Kd.C_drewN ?_ _) | (with_reducible refine Kd.C_drew ?_))); (case side4 => exact HC1.out); (case side5 => repeat (first | exact (Kd.C_below HR2.out HB.out) | (with_reducible refine Kd.C_alloc ?_ _) | (with_reducible refine Kd.C_drewN ?_ _) | (with_reducible refine Kd.C_drew ?_))); (case side6 => exact HC2.out); rintro e w73 ⟨rfl, hb⟩; have n0_ := Aside0.mk (Kd.R_below (by (with_reducible repeat (first | apply Kd.R_alloc | apply Kd.R_drewN | apply Kd.R_drew)); exact HO_10.out) hb); have n1_ := Aside0.mk (Kd.R_below (by (with_reducible repeat (first | apply Kd.R_alloc | apply Kd.R_drewN | apply Kd.R_drew)); exact HO_11.out) hb); have n2_ := Aside0.mk (Kd.R_below (by (with_reducible repeat (first | apply Kd.R_alloc | apply Kd.R_drewN | apply Kd.R_drew)); exact HO_12.out) hb); have n3_ := Aside0.mk (Kd.R_below (by (with_reducible repeat (first | apply Kd.R_alloc | apply Kd.R_drewN | apply Kd.R_drew)); exact HO_13.out) hb); have n4_ := Aside0.mk (below_step (by repeat (first | (with_reducible first | exact HB.out | apply below_alloc | apply pw_below_drewN | apply below_drew1) | exact HB.out)) hb); clear HO_10; clear HO_11; clear HO_12; clear HO_13; clear HB; have HO_10 := n0_; have HO_11 := n1_; have HO_12 := n2_; have HO_13 := n3_; have HB := n4_; clear n0_ n1_ n2_ n3_ n4_; (try clear hb); (try clear hb2); (try clear hk); (try clear hi)))
                go_ret
                exact ⟨by first | rfl | (simp [errW_none, errW_some] <;> rfl) | (simp only [← hji14, ← hji18]; first | rfl | (simp [errW_none, errW_some] <;> rfl)) | (simp [*, errW_none, errW_some] <;> rfl), by repeat (first | (with_reducible first | exact HB.out | apply below_alloc | apply pw_below_drewN | apply below_drew1) | exact HB.out)⟩
              ·rw [if_neg c58] at H
               have c58b0 : (t212 == t213) = false := by simpa using c58
               (try (have c58b1 : decide (t212 = t213) = false := by simpa using c58))
               (try (have c58b2 : (t212 == t213) = false := by simpa using c58))
               (try (have c58b3 : ¬ (t212 = t213) := by simpa using c58))
               clear c58
               exact absurd (Option.some.inj H) (by rw [hr_]; decide)
          ·rw [if_neg c21] at H
           exact absurd H (by simp)
         ·rw [if_neg c20] at H
          exact absurd H (by simp)
        ·rw [if_neg c19] at H
         exact absurd H (by simp)
       ·rw [if_neg c17] at H
        exact absurd H (by simp)
      ·rw [if_neg c16] at H
       exact absurd H (by simp)
     ·rw [if_neg c15] at H
      exact absurd H (by simp)
 ·replace c6 := Bool.eq_false_iff.mpr c6
  subst c6
  have H1 : (some false) = some r := by rw [if_neg (show ¬ (false = true) by decide)] at H; exact H
  clear H
  have H := H1
  clear H1
  exact absurd (Option.some.inj H) (by rw [hr_]; decide)

/-- THE ONE PURE STATEMENT of tattinglaw7_PairsTurns: yours. -/
def tattinglaw7_PairsTurns.Pure : Prop := ∀ (l0 : List Int) (l1 : List Int) (l2 : List (S24)) (a3 : Int), l0.length ≤ maxLen → l0.length * 8 ≤ 140737488351232 → (∀ x ∈ l0, (Lit.int .i64 x).wf = true) → l1.length ≤ maxLen → l1.length * 8 ≤ 140737488351232 → (∀ x ∈ l1, (Lit.int .i64 x).wf = true) → l2.length ≤ maxLen → (∀ x ∈ l2, (Lit.int .i64 x.f0).wf = true ∧ (Lit.int .i64 x.f1).wf = true) → (Lit.int .u8 a3).wf = true → ∃ k, tattinglaw7_PairsTurns.f k l0 l1 l2 a3 = some true
theorem tattinglaw7_PairsTurns.walk (P : tattinglaw7_PairsTurns.Pure) (a0 : Option Addr) (len0 cap0 : Nat) (z0 : List Int) (a1 : Option Addr) (len1 cap1 : Nat) (z1 : List Int) (a2 : Option Addr) (cap2 : Nat) (l2 : List (S24)) (a3 : Int) (w : World) (w0 : (a0 = none ∧ len0 = 0 ∧ cap0 = 0 ∧ z0 = []) ∨ ∃ x, a0 = some x ∧ len0 ≤ cap0 ∧ cap0 ≤ maxLen ∧ z0.length = cap0 ∧ (∀ i, i < z0.length → w.cell? (x.add i) = some (.int .i64 (z0.getD i 0))) ∧ ∀ n ∈ z0, (Lit.int .i64 n).wf = true) (y0 : len0 * 8 ≤ 140737488351232) (w1 : (a1 = none ∧ len1 = 0 ∧ cap1 = 0 ∧ z1 = []) ∨ ∃ x, a1 = some x ∧ len1 ≤ cap1 ∧ cap1 ≤ maxLen ∧ z1.length = cap1 ∧ (∀ i, i < z1.length → w.cell? (x.add i) = some (.int .i64 (z1.getD i 0))) ∧ ∀ n ∈ z1, (Lit.int .i64 n).wf = true) (y1 : len1 * 8 ≤ 140737488351232) (w2 : Kd.C k24 w a2 l2.length l2 ∧ l2.length ≤ cap2 ∧ l2.length ≤ maxLen ∧ (∀ x ∈ l2, (Lit.int .i64 x.f0).wf = true ∧ (Lit.int .i64 x.f1).wf = true)) (w3 : (Lit.int .u8 a3).wf = true) :
  Calls Try.prog 7 #[.slice a0 len0 cap0, .slice a1 len1 cap1, .slice a2 l2.length cap2, .int .u8 a3] w fun e w' => e = .returned (.bool true) ∧ Below w.heap.size w w' := by
 obtain ⟨l0, rfl, hr0, hm0, hw0, hc0⟩ := ReadsInt.ofRowC w0
 obtain ⟨l1, rfl, hr1, hm1, hw1, hc1⟩ := ReadsInt.ofRowC w1
 obtain ⟨hr2, hc2, hm2, hw2⟩ := w2
 obtain ⟨k, h⟩ := P l0 l1 l2 a3 hm0 y0 hw0 hm1 y1 hw1 hm2 hw2 w3
 refine (tattinglaw7_PairsTurns.calls k _ _ l0 _ _ l1 _ _ l2 a3 true w (Kd.C_of_reads (d := (0 : Int)) (h1 := fun _ => rfl) hr0) hc0 (Kd.C_of_reads (d := (0 : Int)) (h1 := fun _ => rfl) hr1) hc1 hr2 hc2 h rfl).mono ?_
 rintro e w' ⟨rfl, hd⟩
 exact ⟨rfl, hd⟩

end Go.Proofs.Ytpodjfnmncpnmaa.PPairsTurns
