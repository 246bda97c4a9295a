/- What the given program's functions come to, each a Lean function and the walk that shows it: no condition beside those that each theorem names. -/
import Derived.Test.YtfmkiankjibkfaaPTokBackx0
import Derived.Test.YtfmkiankjibkfaaPTokBackx1
namespace Go.Proofs.Ytfmkiankjibkfaa.PTokBack
open Go.RowKit Go.Proofs.YtfmkiankjibkfaaW.PrintWords Go.Proofs.YtfmkiankjibkfaaW.PrintLast Go.Proofs.YtfmkiankjibkfaaW.PrintMore
attribute [local go_sem] max2_int min2_int max_two min_two max_three min_three max_four min_four   -- for this text's walks alone
set_option linter.unusedVariables false
set_option linter.unusedSimpArgs false

/-! ### tattinglaw1_TokBack: function 3 -/
mutual
def tattinglaw1_TokBack.j0 : Nat → Bool → List Int → Int → Option (Bool)
 | 0, _, _, _ => none
 | k + 1, x0, x1, x5 => (tok_Cut.f k x5 x1).bind fun bt175 => (if bt175.2 = 0 then ((tok_Join.f k bt175.1).bind fun t179 => (tattinglaw1_TokBack.j1 k x0 x5 bt175.1 ((strOfNums t179).toList != (strOfNums x1).toList))) else (tattinglaw1_TokBack.j1 k x0 x5 bt175.1 true))
def tattinglaw1_TokBack.j1 : Nat → Bool → Int → List (List Int) → Bool → Option (Bool)
 | 0, _, _, _, _ => none
 | k + 1, x0, x5, x6, x30 => if x30 = true then (some false) else (tattinglaw1_TokBack.l0 k x0 x5 x6 0)
def tattinglaw1_TokBack.l0 : Nat → Bool → Int → List (List Int) → Int → Option (Bool)
 | 0, _, _, _, _ => none
 | k + 1, x0, x5, x6, x8 => if x8 < (x6.length : Int) then (if 0 ≤ x8 then ((tok_Is.f x5 (rd_L1 x6 x8)).bind fun t183 => (if t183 = true then (if x0 = true then (if (wrap64 (x8 + 1)) < (x6.length : Int) then (if ((rd_L1 x6 x8).length : Int) = 0 then (some false) else (if 0 ≤ (wrap64 (((rd_L1 x6 x8).length : Int) - 1)) then (if (wrap64 (((rd_L1 x6 x8).length : Int) - 1)) < ((rd_L1 x6 x8).length : Int) then (if (rd (rd_L1 x6 x8) (wrap64 (((rd_L1 x6 x8).length : Int) - 1))) = 10 then (tattinglaw1_TokBack.l0 k x0 x5 x6 (wrap64 (x8 + 1))) else (some false)) else (none)) else (none))) else (tattinglaw1_TokBack.l0 k x0 x5 x6 (wrap64 (x8 + 1)))) else (tattinglaw1_TokBack.l0 k x0 x5 x6 (wrap64 (x8 + 1)))) else (some false))) else (none)) else (some true)
end
def tattinglaw1_TokBack.f (k : Nat) (a0 : Bool) (l1 : List Int) : Option (Bool) := (tattinglaw1_awake.f k).bind fun t174 => (if t174 = true then (if (l1.length : Int) > 300 then (some true) else (if a0 = true then (tattinglaw1_TokBack.j0 k a0 l1 1) else (tattinglaw1_TokBack.j0 k a0 l1 0))) else (some false))
theorem tattinglaw1_TokBack.mono_l : ∀ k, (∀ y0 y1 y2, LeO (tattinglaw1_TokBack.j0 k y0 y1 y2) (tattinglaw1_TokBack.j0 (k + 1) y0 y1 y2)) ∧ (∀ y0 y1 y2 y3, LeO (tattinglaw1_TokBack.j1 k y0 y1 y2 y3) (tattinglaw1_TokBack.j1 (k + 1) y0 y1 y2 y3)) ∧ (∀ y0 y1 y2 y3, LeO (tattinglaw1_TokBack.l0 k y0 y1 y2 y3) (tattinglaw1_TokBack.l0 (k + 1) y0 y1 y2 y3))
 | 0 => ⟨fun _ _ _ r h => by simp [tattinglaw1_TokBack.j0] at h, fun _ _ _ _ r h => by simp [tattinglaw1_TokBack.j1] at h, fun _ _ _ _ r h => by simp [tattinglaw1_TokBack.l0] at h⟩
 | k + 1 => by
  obtain ⟨ih0, ih1, ih2⟩ := tattinglaw1_TokBack.mono_l k
  refine ⟨?_, ?_, ?_⟩
  ·intro y0 y1 y2
   unfold tattinglaw1_TokBack.j0
   repeat' first
   | (with_reducible exact ih0 _ _ _)
   | (with_reducible exact ih1 _ _ _ _)
   | (with_reducible exact ih2 _ _ _ _)
   | (with_reducible exact tattinglaw1_awake.mono _)
   | (with_reducible exact tok_Cut.mono _ _ _)
   | (with_reducible exact tok_Join.mono _ _)
   | (with_reducible exact LeO.refl _)
   | (with_reducible exact LeO.none _)
   | (with_reducible refine LeO.ite ?_ ?_)
   | (with_reducible refine LeO.bind ?_ (fun _ => ?_))
   | exact ih0 _ _ _
   | exact ih1 _ _ _ _
   | exact ih2 _ _ _ _
   | exact tattinglaw1_awake.mono _
   | exact tok_Cut.mono _ _ _
   | exact tok_Join.mono _ _
   | exact LeO.none _
   | refine LeO.ite ?_ ?_
   | refine LeO.bind ?_ (fun _ => ?_)
  ·intro y0 y1 y2 y3
   unfold tattinglaw1_TokBack.j1
   repeat' first
   | (with_reducible exact ih0 _ _ _)
   | (with_reducible exact ih1 _ _ _ _)
   | (with_reducible exact ih2 _ _ _ _)
   | (with_reducible exact tattinglaw1_awake.mono _)
   | (with_reducible exact tok_Cut.mono _ _ _)
   | (with_reducible exact tok_Join.mono _ _)
   | (with_reducible exact LeO.refl _)
   | (with_reducible exact LeO.none _)
   | (with_reducible refine LeO.ite ?_ ?_)
   | (with_reducible refine LeO.bind ?_ (fun _ => ?_))
   | exact ih0 _ _ _
   | exact ih1 _ _ _ _
   | exact ih2 _ _ _ _
   | exact tattinglaw1_awake.mono _
   | exact tok_Cut.mono _ _ _
   | exact tok_Join.mono _ _
   | exact LeO.none _
   | refine LeO.ite ?_ ?_
   | refine LeO.bind ?_ (fun _ => ?_)
  ·intro y0 y1 y2 y3
   unfold tattinglaw1_TokBack.l0
   repeat' first
   | (with_reducible exact ih0 _ _ _)
   | (with_reducible exact ih1 _ _ _ _)
   | (with_reducible exact ih2 _ _ _ _)
   | (with_reducible exact tattinglaw1_awake.mono _)
   | (with_reducible exact tok_Cut.mono _ _ _)
   | (with_reducible exact tok_Join.mono _ _)
   | (with_reducible exact LeO.refl _)
   | (with_reducible exact LeO.none _)
   | (with_reducible refine LeO.ite ?_ ?_)
   | (with_reducible refine LeO.bind ?_ (fun _ => ?_))
   | exact ih0 _ _ _
   | exact ih1 _ _ _ _
   | exact ih2 _ _ _ _
   | exact tattinglaw1_awake.mono _
   | exact tok_Cut.mono _ _ _
   | exact tok_Join.mono _ _
   | exact LeO.none _
   | refine LeO.ite ?_ ?_
   | refine LeO.bind ?_ (fun _ => ?_)
theorem tattinglaw1_TokBack.mono : ∀ a0 a1 k, LeO (tattinglaw1_TokBack.f k a0 a1) (tattinglaw1_TokBack.f (k + 1) a0 a1) := by
 intro a0 a1 k
 obtain ⟨ih0, ih1, ih2⟩ := tattinglaw1_TokBack.mono_l k
 unfold tattinglaw1_TokBack.f
 repeat' first
   | (with_reducible exact ih0 _ _ _)
   | (with_reducible exact ih1 _ _ _ _)
   | (with_reducible exact ih2 _ _ _ _)
   | (with_reducible exact tattinglaw1_awake.mono _)
   | (with_reducible exact tok_Cut.mono _ _ _)
   | (with_reducible exact tok_Join.mono _ _)
   | (with_reducible exact LeO.refl _)
   | (with_reducible exact LeO.none _)
   | (with_reducible refine LeO.ite ?_ ?_)
   | (with_reducible refine LeO.bind ?_ (fun _ => ?_))
   | exact ih0 _ _ _
   | exact ih1 _ _ _ _
   | exact ih2 _ _ _ _
   | exact tattinglaw1_awake.mono _
   | exact tok_Cut.mono _ _ _
   | exact tok_Join.mono _ _
   | exact LeO.none _
   | refine LeO.ite ?_ ?_
   | refine LeO.bind ?_ (fun _ => ?_)
def tattinglaw1_TokBack.T9 : Bool × List (List Nat × List Nat) := (true, [([], []), ([0], [0]), ([1], [1]), ([2], [2]), ([3, 2, 2], [2, 3]), ([4, 2], [2, 4]), ([2], [2]), ([6, 2], [2, 6]), ([5, 7, 2], [2, 5, 7]), ([2, 8], [2, 8])])
def tattinglaw1_TokBack.B9 : List Nat := [0, 1, 3, 7, 15, 31, 7, 71, 255, 511]
theorem tattinglaw1_TokBack.tab9 : rtab .any (opsOf Try.f3 9) = tattinglaw1_TokBack.T9 := by kernel_rfl
theorem tattinglaw1_TokBack.bits9 : waitsOk tattinglaw1_TokBack.T9.2 tattinglaw1_TokBack.B9 = true := by kernel_rfl
def tattinglaw1_TokBack.T14 : Bool × List (List Nat × List Nat) := (true, [([], []), ([], []), ([], []), ([1, 2], [1, 2]), ([3], [3]), ([0, 4], [0, 4]), ([5], [5]), ([6, 5], [6]), ([7], [7]), ([8, 7, 7], [7, 8]), ([9], [9]), ([10, 9], [9, 10]), ([9], [9]), ([12, 9], [9, 12]), ([11, 13, 9], [9, 11, 13]), ([9, 14, 7], [7, 9, 14]), ([15, 9, 7], [7, 15]), ([16], [16]), ([16], [16]), ([17, 18, 16], [16, 17, 18]), ([19, 16], [16, 19]), ([20, 16], [16, 20]), ([21, 16], [16, 21]), ([22, 16, 16], [16, 22]), ([23], [23]), ([23], [23]), ([24, 25, 23], [23, 24, 25]), ([26, 23], [23, 26]), ([23], [23]), ([23], [23]), ([28, 29, 23], [23, 28, 29]), ([30, 23], [23, 30]), ([31, 23], [23, 31]), ([32, 23], [23, 32]), ([27, 33, 23], [23, 27, 33]), ([34, 23], [23, 34]), ([35, 23], [23, 35]), ([23, 36, 16], [16, 23, 36]), ([16, 37, 7], [7, 16, 37]), ([7, 38], [7, 38])])
def tattinglaw1_TokBack.B14 : List Nat := [0, 0, 0, 6, 14, 31, 63, 127, 255, 511, 1023, 2047, 1023, 5119, 16383, 32767, 65535, 131071, 131071, 524287, 1048575, 2097151, 4194303, 8388607, 16777215, 16777215, 67108863, 134217727, 16777215, 16777215, 822083583, 1895825407, 4043309055, 8338276351, 17179869183, 34359738367, 68719476735, 137438953471, 274877906943, 549755813887]
theorem tattinglaw1_TokBack.tab14 : rtab .any (opsOf Try.f3 14) = tattinglaw1_TokBack.T14 := by kernel_rfl
theorem tattinglaw1_TokBack.bits14 : waitsOk tattinglaw1_TokBack.T14.2 tattinglaw1_TokBack.B14 = true := by kernel_rfl
set_option maxHeartbeats 8000000 in
set_option maxRecDepth 100000 in
theorem tattinglaw1_TokBack.calls (k : Nat) (a0 : Bool) (A1 : Option Addr) (c1 : Nat) (l1 : List Int) (r : Bool) (w : World) (hr1 : Kd.C (Kd.int .u8) w A1 l1.length l1) (hc1 : l1.length ≤ c1) (h : tattinglaw1_TokBack.f k a0 l1 = some r) (hr_ : r = true) :
  Calls Try.prog 3 #[.bool a0, .slice A1 l1.length c1] w fun e w' => e = .returned (.bool r) ∧ Below w.heap.size w w' := by
 have HR1 := Aside0.mk hr1
 have HC1 := Aside0.mk hc1
 clear hr1 hc1
 have HB := Aside0.mk (Below.refl w.heap.size w)
 have H : ((tattinglaw1_awake.f k).bind fun t174 => (if t174 = true then (if (l1.length : Int) > 300 then (some true) else (if a0 = true then (tattinglaw1_TokBack.j0 k a0 l1 1) else (tattinglaw1_TokBack.j0 k a0 l1 0))) else (some false))) = some r := h
 clear h
 replace H := Option.bind_eq_some_iff.mp H
 obtain ⟨t174, A30, H⟩ := H
 replace H : (if t174 = true then (if (l1.length : Int) > 300 then (some true) else (if a0 = true then (tattinglaw1_TokBack.j0 k a0 l1 1) else (tattinglaw1_TokBack.j0 k a0 l1 0))) else (some false)) = some r := H
 have A3 := Aside0.mk A30
 clear A30
 by_cases c4 : t174 = true
 ·subst c4
  have H1 : (if (l1.length : Int) > 300 then (some true) else (if a0 = true then (tattinglaw1_TokBack.j0 k a0 l1 1) else (tattinglaw1_TokBack.j0 k a0 l1 0))) = some r := by rw [if_pos rfl] at H; exact H
  clear H
  have H := H1
  clear H1
  by_cases c5 : (l1.length : Int) > 300
  ·rw [if_pos c5] at H
   have c5b0 : decide (300 < (l1.length : Int)) = true := decide_eq_true c5
   have c5b1 : decide (300 < l1.length) = true := decide_eq_true (by omega)
   clear c5
   obtain rfl := Option.some.inj H
   go_enter Try.func3, Try.ntmps3
   try dsimp only [List.append]
   go_wp2_with (first | ((first | (with_reducible refine gate_callee (f := 9) rfl ?_); refine goesL_ (some 9) rfl rfl Try.func9 (by kernel_rfl) rfl #[] rfl (by (try simp only [List.map_toArray, List.map_cons, List.map_nil]); first | done | rfl | (simp only [List.length_drop, List.length_take]; rfl)) ?_ | go_at_call 9); (with_reducible refine (tattinglaw1_awake.calls k  true _ A3.out rfl).mono ?_); rintro e w6 ⟨rfl, hb⟩; (try refine ⟨_, rfl, ?_⟩); have n0_ := Aside0.mk (below_step (by repeat (first | (with_reducible first | exact HB.out | apply below_alloc | apply pw_below_drewN | apply below_drew1) | exact HB.out)) hb); clear HB; have HB := n0_; clear n0_; (try clear hb); (try clear hb2); (try clear hk); (try clear hi)))
   go_ret
   exact ⟨by first | rfl | (simp [errW_none, errW_some] <;> rfl) | (simp [*, errW_none, errW_some] <;> rfl), by repeat (first | (with_reducible first | exact HB.out | apply below_alloc | apply pw_below_drewN | apply below_drew1) | exact HB.out)⟩
  ·rw [if_neg c5] at H
   have c5b0 : decide (300 < (l1.length : Int)) = false := decide_eq_false c5
   have c5b1 : decide (300 < l1.length) = false := decide_eq_false (by omega)
   clear c5
   have HC7 := Aside0.mk H
   clear H
   go_enter Try.func3, Try.ntmps3
   try dsimp only [List.append]
   go_upto_if 14 with (first | ((first | (with_reducible refine gate_callee (f := 9) rfl ?_); refine goesL_ (some 9) rfl rfl Try.func9 (by kernel_rfl) rfl #[] rfl (by (try simp only [List.map_toArray, List.map_cons, List.map_nil]); first | done | rfl | (simp only [List.length_drop, List.length_take]; rfl)) ?_ | go_at_call 9); (with_reducible refine (tattinglaw1_awake.calls k  true _ A3.out rfl).mono ?_); rintro e w8 ⟨rfl, hb⟩; (try refine ⟨_, rfl, ?_⟩); have n0_ := Aside0.mk (below_step (by repeat (first | (with_reducible first | exact HB.out | apply below_alloc | apply pw_below_drewN | apply below_drew1) | exact HB.out)) hb); clear HB; have HB := n0_; clear n0_; (try clear hb); (try clear hb2); (try clear hk); (try clear hi)))
   (try simp only [Act.put, sA,sB,sC])
   go_cut [5] (fun v5 wc => ∃ (kq : Nat) (x5_6 : Int), v5 = .int .i64 x5_6 ∧ Aside0 (tattinglaw1_TokBack.j0 kq a0 l1 x5_6 = some r) ∧ Aside0 (kq ≤ k) ∧ Aside0 (Below w.heap.size w wc))
   case first =>
    have H := HC7.out
    clear HC7
    by_cases c9 : a0 = true
    ·subst c9
     have H1 : (tattinglaw1_TokBack.j0 k true l1 1) = some r := by rw [if_pos rfl] at H; exact H
     clear H
     have H := H1
     clear H1
     have H' := Aside0.mk H
     clear H
     go_wp2
     go_meet
     case rel => exact ⟨_, (1), (by first | rfl | (simp; done) | (simp [*]; done)), H', ⟨by first | omega | exact Nat.le_refl _⟩, ⟨by repeat (first | (with_reducible first | exact HB.out | apply below_alloc | apply pw_below_drewN | apply below_drew1) | exact HB.out)⟩⟩
    ·replace c9 := Bool.eq_false_iff.mpr c9
     subst c9
     have H1 : (tattinglaw1_TokBack.j0 k false l1 0) = some r := by rw [if_neg (show ¬ (false = true) by decide)] at H; exact H
     clear H
     have H := H1
     clear H1
     have H' := Aside0.mk H
     clear H
     go_wp2
     go_meet
     case rel => exact ⟨_, (0), (by first | rfl | (simp; done) | (simp [*]; done)), H', ⟨by first | omega | exact Nat.le_refl _⟩, ⟨by repeat (first | (with_reducible first | exact HB.out | apply below_alloc | apply pw_below_drewN | apply below_drew1) | exact HB.out)⟩⟩
   case rest =>
    clear HC7
    try clear c1
    try clear p2
    try clear c3
    try clear c4
    try clear c5
    try clear c5b0
    try clear c5b1
    try clear c9
    obtain ⟨kq, x5_6, rfl, HA, HJ6, HB⟩ := hcut
    cases kq with
    | zero => exact absurd HA.out (by simp [tattinglaw1_TokBack.j0])
    | succ kj6 =>
     have H := HA.out
     clear HA
     simp only [tattinglaw1_TokBack.j0] at H
     replace H := Option.bind_eq_some_iff.mp H
     obtain ⟨⟨t175, t178⟩, A100, H⟩ := H
     replace H : (if t178 = 0 then ((tok_Join.f kj6 t175).bind fun t179 => (tattinglaw1_TokBack.j1 kj6 a0 x5_6 t175 ((strOfNums t179).toList != (strOfNums l1).toList))) else (tattinglaw1_TokBack.j1 kj6 a0 x5_6 t175 true)) = some r := H
     have A10 := Aside0.mk A100
     clear A100
     have HC11 := Aside0.mk H
     clear H
     go_upto_region 9 with (first | ((first | (with_reducible refine gate_callee (f := 10) rfl ?_); refine goesL_ (some 18) rfl rfl Try.func10 (by kernel_rfl) rfl #[.int .i64 x5_6, .slice A1 l1.length c1] rfl (by (try simp only [List.map_toArray, List.map_cons, List.map_nil]); first | done | rfl | (simp only [List.length_drop, List.length_take]; rfl)) ?_ | go_at_call 10); (with_reducible refine (tok_Cut.calls kj6 x5_6 (fun k_ => k_ < w.heap.size) _ _ l1 t175 t178 _ ?side1 A10.out).mono ?_); (case side1 => exact Kd.V_mk HC1.out (Kd.F_below (Kd.C_F (Kd.heap_int .u8) HR1.out) (by repeat (first | (with_reducible first | exact HB.out | apply below_alloc | apply pw_below_drewN | apply below_drew1) | exact HB.out)))); rintro e w12 ⟨v176, rfl, ho0, hb⟩; (try refine ⟨_, rfl, ?_⟩); have n0_ := Aside0.mk (Kd.S_lower (Kd.S_mono (ok' := fun k_ => True) ho0 (fun _ hk_ => trivial)) (below_size (by repeat (first | (with_reducible first | exact HB.out | apply below_alloc | apply pw_below_drewN | apply below_drew1) | exact HB.out)))); have n1_ := Aside0.mk (below_step (by repeat (first | (with_reducible first | exact HB.out | apply below_alloc | apply pw_below_drewN | apply below_drew1) | exact HB.out)) hb); clear HB; have HO177 := n0_; have HB := n1_; clear n0_ n1_; (try clear hb); (try clear hb2); (try clear hk); (try clear hi); (try clear ho0)))
     (try simp only [Act.put, sA,sB,sC])
     go_cut [30] (fun v30 wc => ∃ (kq : Nat) (x30_10 : Bool), v30 = .bool x30_10 ∧ Aside0 (tattinglaw1_TokBack.j1 kq a0 x5_6 t175 x30_10 = some r) ∧ Aside0 (kq ≤ kj6) ∧ Aside0 (Kd.S (Kd.slice 5 (Kd.int .u8)) 22 wc w.heap.size (fun _ => True) v176 t175) ∧ Aside0 (Below w.heap.size w wc))
     case first =>
      have H := HC11.out
      clear HC11
      by_cases c13 : t178 = 0
      ·rw [if_pos c13] at H
       have c13b0 : (t178 == 0) = true := beq_iff_eq.mpr c13
       have c13b1 : (t178 != 0) = false := bne_eq_false_iff_eq.mpr c13
       clear c13
       (first | rw [c13b0] | (simp only [i64_w, i32_w]; rw [c13b0]) | skip)
       replace H := Option.bind_eq_some_iff.mp H
       obtain ⟨t179, A140, H⟩ := H
       replace H : (tattinglaw1_TokBack.j1 kj6 a0 x5_6 t175 ((strOfNums t179).toList != (strOfNums l1).toList)) = some r := H
       have A14 := Aside0.mk A140
       clear A140
       have H' := Aside0.mk H
       clear H
       obtain ⟨Ao15, co15, eo15⟩ := Kd.S_slice HO177.out
       subst eo15
       try go_wp2
       have n0_ := Aside0.mk (Kd.S_drew HO177.out)
       have n1_ := Aside0.mk (below_drew1 HB.out)
       clear HO177
       clear HB
       have HO177 := n0_
       have HB := n1_
       clear n0_ n1_
       refine start_ (n := 10) (S := fun w' => True) (ds := []) #[N,N,N,N,N,N,N,N,N,N] (by kernel_rfl) rfl rfl trivial (fun hHeld => ?_); refine with_tabW tattinglaw1_TokBack.tab9 tattinglaw1_TokBack.bits9 (fun HT_ HW_ => ?_)
       generalize w12.drew = w16 at HO177 HB hHeld ⊢
       refine pure_ (i := 0) (N := some 21) (v := ?_) (a' := ?_) #[Y,N,N,N,N,N,N,N,N,N] rfl rfl (any_of HT_.out (by kernel_rfl)) (fun _ _ _ h => h) (Or.inl ⟨by rfl, ?_⟩) ?_ ?_; rotate_left
       ·intro w'; go_simp; with_reducible rfl
       rotate_left
       ·simp only [Act.put, sA,sB,sC, i64_w, i32_w]; rfl
       refine pure_ (i := 1) (N := some 22) (v := ?_) (a' := ?_) #[Y,Y,N,N,N,N,N,N,N,N] rfl rfl (any_of HT_.out (by kernel_rfl)) (fun _ _ _ h => h) (Or.inl ⟨by rfl, ?_⟩) ?_ ?_; rotate_left
       ·intro w'; go_simp; with_reducible rfl
       rotate_left
       ·simp only [Act.put, sA,sB,sC, i64_w, i32_w]; rfl
       refine pure_ (i := 2) (N := some 23) (v := ?_) (a' := ?_) #[Y,Y,Y,N,N,N,N,N,N,N] rfl rfl (any_of HT_.out (by kernel_rfl)) (fun _ _ _ h => h) (Or.inl ⟨by rfl, ?_⟩) ?_ ?_; rotate_left
       ·intro w'; go_simp; with_reducible rfl
       rotate_left
       ·simp only [Act.put, sA,sB,sC, i64_w, i32_w]; rfl
       refine pure_ (i := 3) (N := some 24) (v := ?_) (a' := ?_) #[Y,Y,Y,Y,N,N,N,N,N,N] rfl rfl (any_of HT_.out (by kernel_rfl)) (fun _ _ _ h => h) (Or.inl ⟨by rfl, ?_⟩) ?_ ?_; rotate_left
       ·intro w'; go_simp; with_reducible rfl
       rotate_left
       ·simp only [Act.put, sA,sB,sC, i64_w, i32_w]; rfl
       refine pure_ (i := 6) (N := some 27) (v := ?_) (a' := ?_) #[Y,Y,Y,Y,N,N,Y,N,N,N] rfl rfl (any_of HT_.out (by kernel_rfl)) (fun _ _ _ h => h) (Or.inl ⟨by rfl, ?_⟩) ?_ ?_; rotate_left
       ·intro w'; go_simp; with_reducible rfl
       rotate_left
       ·simp only [Act.put, sA,sB,sC, i64_w, i32_w]; rfl
       refine join_ (σ := Value) 2 #[Y,Y,Y,Y,Y,Y,Y,Y,N,N] (fun s_ => [(25, s_), (26, .string (strOfNums t179)), (28, .string (strOfNums l1))]) (fun s_ w' => (Kd.S (Kd.slice 5 (Kd.int .u8)) 22 w' w.heap.size (fun k_ => some k_ ≠ (s_ : Value).ownBlock) (.slice Ao15 t175.length co15) t175) ∧ (Kd.R (Kd.int .u8) 5 w' w.heap.size (fun _ => True) s_ t179) ∧ (Below w.heap.size w w')) ?_ ?_
       rotate_left
       ·intro hCont
        refine two_ (i := 4) (j := 7) (Ni := some 25) (Nj := some 28) #[Y,Y,Y,Y,Y,N,Y,N,N,N] #[Y,Y,Y,Y,N,N,Y,Y,N,N] rfl rfl rfl rfl (two_of HT_.out (by kernel_rfl)) (by decide) (by decide) (fun K hK => ?_) (fun K hK => ?_)
        ·skip
         refine goes_ Try.func11 (by kernel_rfl) rfl #[.slice Ao15 t175.length co15] (by rfl) rfl rfl (by (try simp only [List.map_toArray, List.map_cons, List.map_nil]); first | done | rfl | (simp only [List.length_drop, List.length_take]; rfl)) ?_
         with_reducible refine (tok_Join.calls kj6 _ _ t175 t179 _ ?side1 ?side2 A14.out).mono ?_
         (case side1 => repeat (first | exact (Kd.S_reads' HO177.out).2.2 | (with_reducible refine Kd.C_alloc ?_ _) | (with_reducible refine Kd.C_drewN ?_ _) | (with_reducible refine Kd.C_drew ?_)))
         (case side2 => exact (Kd.S_reads' HO177.out).2.1)
         rintro e w17 ⟨v180, rfl, ho0, hb⟩
         refine ⟨_, rfl, ?_⟩
         have n0_ := Aside0.mk (Kd.S_elder' (by (with_reducible repeat (first | apply Kd.S_alloc | apply Kd.S_drewN | apply Kd.S_drew)); exact HO177.out) (Kd.R_base ho0) hb)
         have n1_ := Aside0.mk (Kd.R_lower ho0 (below_size (by repeat (first | (with_reducible first | exact HB.out | apply below_alloc | apply pw_below_drewN | apply below_drew1) | exact HB.out))))
         have n2_ := Aside0.mk (below_step (by repeat (first | (with_reducible first | exact HB.out | apply below_alloc | apply pw_below_drewN | apply below_drew1) | exact HB.out)) hb)
         clear HO177
         clear HB
         have HO177 := n0_
         have HO181 := n1_
         have HB := n2_
         clear n0_ n1_ n2_
         (try clear hb)
         (try clear hb2)
         (try clear hk)
         (try clear hi)
         (try clear ho0)
         refine hK.out _ _ trivial (fun hHeld => ?_)
         clear hK K
         refine norm_ (a' := ?_) ?_ ?_
         rotate_left
         ·show Act.put _ (some 25) _ = _
          simp only [Act.put, sA,sB,sC, i64_w, i32_w]; rfl
         refine two_ (i := 5) (j := 7) (Ni := some 26) (Nj := some 28) #[Y,Y,Y,Y,Y,Y,Y,N,N,N] #[Y,Y,Y,Y,Y,N,Y,Y,N,N] rfl rfl rfl rfl (two_of HT_.out (by kernel_rfl)) (by decide) (by decide) (fun K hK => ?_) (fun K hK => ?_)
         ·skip
          have hcv18 := own_string (P := Try.prog) Try.underlying22 Try.underlying5 Try.underlying9 (Kd.own_of_R HO181.out)
          refine value_ (w1 := ?_) (v := ?_) (by rfl) rfl ?_ ?_
          rotate_left 2
          ·go_simp
           constructor
           ·rfl
           ·rfl
          clear hcv18
          refine hK.out _ _ trivial (fun hHeld => ?_)
          clear hK K
          refine norm_ (a' := ?_) ?_ ?_
          rotate_left
          ·show Act.put _ (some 26) _ = _
           simp only [Act.put, sA,sB,sC, i64_w, i32_w]; rfl
          refine one_ (i := 7) (N := some 28) #[Y,Y,Y,Y,Y,Y,Y,Y,N,N] rfl rfl (one_of HT_.out (by kernel_rfl)) (by decide) (fun K hK => ?_)
          have hcv19 := Kd.C_string (P := Try.prog) (A := A1) (c := c1) Try.underlying22 Try.underlying5 Try.underlying9 (Kd.C_below HR1.out HB.out)
          refine value_ (w1 := ?_) (v := ?_) (by rfl) rfl ?_ ?_
          rotate_left 2
          ·go_simp
           constructor
           ·rfl
           ·rfl
          clear hcv19
          refine hK.out _ _ trivial (fun hHeld => ?_)
          clear hK K
          refine norm_ (a' := ?_) ?_ ?_
          rotate_left
          ·show Act.put _ (some 28) _ = _
           simp only [Act.put, sA,sB,sC, i64_w, i32_w]; rfl
          exact norm_ (by simp only [putAll, Act.put, sA,sB,sC]) (hCont (v180) _ ⟨(by (with_reducible repeat (first | apply Kd.S_alloc | apply Kd.S_drewN | apply Kd.S_drew)); exact Kd.S_mono HO177.out (fun _ hk => hk.2)), (by (with_reducible repeat (first | apply Kd.R_alloc | apply Kd.R_drewN | apply Kd.R_drew)); exact HO181.out), (by repeat (first | (with_reducible first | exact HB.out | apply below_alloc | apply pw_below_drewN | apply below_drew1) | exact HB.out))⟩)
         ·skip
          have hcv18 := Kd.C_string (P := Try.prog) (A := A1) (c := c1) Try.underlying22 Try.underlying5 Try.underlying9 (Kd.C_below HR1.out HB.out)
          refine value_ (w1 := ?_) (v := ?_) (by rfl) rfl ?_ ?_
          rotate_left 2
          ·go_simp
           constructor
           ·rfl
           ·rfl
          clear hcv18
          refine hK.out _ _ trivial (fun hHeld => ?_)
          clear hK K
          refine norm_ (a' := ?_) ?_ ?_
          rotate_left
          ·show Act.put _ (some 28) _ = _
           simp only [Act.put, sA,sB,sC, i64_w, i32_w]; rfl
          refine one_ (i := 5) (N := some 26) #[Y,Y,Y,Y,Y,Y,Y,Y,N,N] rfl rfl (one_of HT_.out (by kernel_rfl)) (by decide) (fun K hK => ?_)
          have hcv19 := own_string (P := Try.prog) Try.underlying22 Try.underlying5 Try.underlying9 (Kd.own_of_R HO181.out)
          refine value_ (w1 := ?_) (v := ?_) (by rfl) rfl ?_ ?_
          rotate_left 2
          ·go_simp
           constructor
           ·rfl
           ·rfl
          clear hcv19
          refine hK.out _ _ trivial (fun hHeld => ?_)
          clear hK K
          refine norm_ (a' := ?_) ?_ ?_
          rotate_left
          ·show Act.put _ (some 26) _ = _
           simp only [Act.put, sA,sB,sC, i64_w, i32_w]; rfl
          exact norm_ (by simp only [putAll, Act.put, sA,sB,sC]) (hCont (v180) _ ⟨(by (with_reducible repeat (first | apply Kd.S_alloc | apply Kd.S_drewN | apply Kd.S_drew)); exact Kd.S_mono HO177.out (fun _ hk => hk.2)), (by (with_reducible repeat (first | apply Kd.R_alloc | apply Kd.R_drewN | apply Kd.R_drew)); exact HO181.out), (by repeat (first | (with_reducible first | exact HB.out | apply below_alloc | apply pw_below_drewN | apply below_drew1) | exact HB.out))⟩)
        ·skip
         have hcv17 := Kd.C_string (P := Try.prog) (A := A1) (c := c1) Try.underlying22 Try.underlying5 Try.underlying9 (Kd.C_below HR1.out HB.out)
         refine value_ (w1 := ?_) (v := ?_) (by rfl) rfl ?_ ?_
         rotate_left 2
         ·go_simp
          constructor
          ·rfl
          ·rfl
         clear hcv17
         refine hK.out _ _ trivial (fun hHeld => ?_)
         clear hK K
         refine norm_ (a' := ?_) ?_ ?_
         rotate_left
         ·show Act.put _ (some 28) _ = _
          simp only [Act.put, sA,sB,sC, i64_w, i32_w]; rfl
         refine one_ (i := 4) (N := some 25) #[Y,Y,Y,Y,Y,N,Y,Y,N,N] rfl rfl (one_of HT_.out (by kernel_rfl)) (by decide) (fun K hK => ?_)
         refine goes_ Try.func11 (by kernel_rfl) rfl #[.slice Ao15 t175.length co15] (by rfl) rfl rfl (by (try simp only [List.map_toArray, List.map_cons, List.map_nil]); first | done | rfl | (simp only [List.length_drop, List.length_take]; rfl)) ?_
         with_reducible refine (tok_Join.calls kj6 _ _ t175 t179 _ ?side1 ?side2 A14.out).mono ?_
         (case side1 => repeat (first | exact (Kd.S_reads' HO177.out).2.2 | (with_reducible refine Kd.C_alloc ?_ _) | (with_reducible refine Kd.C_drewN ?_ _) | (with_reducible refine Kd.C_drew ?_)))
         (case side2 => exact (Kd.S_reads' HO177.out).2.1)
         rintro e w18 ⟨v180, rfl, ho0, hb⟩
         refine ⟨_, rfl, ?_⟩
         have n0_ := Aside0.mk (Kd.S_elder' (by (with_reducible repeat (first | apply Kd.S_alloc | apply Kd.S_drewN | apply Kd.S_drew)); exact HO177.out) (Kd.R_base ho0) hb)
         have n1_ := Aside0.mk (Kd.R_lower ho0 (below_size (by repeat (first | (with_reducible first | exact HB.out | apply below_alloc | apply pw_below_drewN | apply below_drew1) | exact HB.out))))
         have n2_ := Aside0.mk (below_step (by repeat (first | (with_reducible first | exact HB.out | apply below_alloc | apply pw_below_drewN | apply below_drew1) | exact HB.out)) hb)
         clear HO177
         clear HB
         have HO177 := n0_
         have HO181 := n1_
         have HB := n2_
         clear n0_ n1_ n2_
         (try clear hb)
         (try clear hb2)
         (try clear hk)
         (try clear hi)
         (try clear ho0)
         refine hK.out _ _ trivial (fun hHeld => ?_)
         clear hK K
         refine norm_ (a' := ?_) ?_ ?_
         rotate_left
         ·show Act.put _ (some 25) _ = _
          simp only [Act.put, sA,sB,sC, i64_w, i32_w]; rfl
         refine one_ (i := 5) (N := some 26) #[Y,Y,Y,Y,Y,Y,Y,Y,N,N] rfl rfl (one_of HT_.out (by kernel_rfl)) (by decide) (fun K hK => ?_)
         have hcv19 := own_string (P := Try.prog) Try.underlying22 Try.underlying5 Try.underlying9 (Kd.own_of_R HO181.out)
         refine value_ (w1 := ?_) (v := ?_) (by rfl) rfl ?_ ?_
         rotate_left 2
         ·go_simp
          constructor
          ·rfl
          ·rfl
         clear hcv19
         refine hK.out _ _ trivial (fun hHeld => ?_)
         clear hK K
         refine norm_ (a' := ?_) ?_ ?_
         rotate_left
         ·show Act.put _ (some 26) _ = _
          simp only [Act.put, sA,sB,sC, i64_w, i32_w]; rfl
         exact norm_ (by simp only [putAll, Act.put, sA,sB,sC]) (hCont (v180) _ ⟨(by (with_reducible repeat (first | apply Kd.S_alloc | apply Kd.S_drewN | apply Kd.S_drew)); exact Kd.S_mono HO177.out (fun _ hk => hk.2)), (by (with_reducible repeat (first | apply Kd.R_alloc | apply Kd.R_drewN | apply Kd.R_drew)); exact HO181.out), (by repeat (first | (with_reducible first | exact HB.out | apply below_alloc | apply pw_below_drewN | apply below_drew1) | exact HB.out))⟩)
       rintro v180 w20 ⟨h0_, h1_, h2_⟩
       have n0_ : Aside0 (Kd.S (Kd.slice 5 (Kd.int .u8)) 22 w20 w.heap.size (fun k_ => some k_ ≠ (v180 : Value).ownBlock) (.slice Ao15 t175.length co15) t175) := ⟨h0_⟩
       have n1_ : Aside0 (Kd.R (Kd.int .u8) 5 w20 w.heap.size (fun _ => True) v180 t179) := ⟨h1_⟩
       have n2_ : Aside0 (Below w.heap.size w w20) := ⟨h2_⟩
       clear HO177
       clear HB
       clear h0_ h1_ h2_
       have HO177 := n0_
       have HO181 := n1_
       have HB := n2_
       clear n0_ n1_ n2_
       have hHeld := trivial
       refine norm_ (a' := ?_) ?_ ?_
       rotate_left
       ·simp only [putAll, Act.put, sA,sB,sC]
        rfl
       refine pure_ (i := 8) (N := some 29) (v := ?_) (a' := ?_) #[Y,Y,Y,Y,Y,Y,Y,Y,Y,N] rfl rfl (any_of HT_.out (by kernel_rfl)) (fun _ _ _ h => h) (Or.inl ⟨by rfl, ?_⟩) ?_ ?_; rotate_left
       ·intro w'; go_simp; with_reducible rfl
       rotate_left
       ·simp only [Act.put, sA,sB,sC, i64_w, i32_w]; rfl
       refine pure_ (i := 9) (N := some 30) (v := ?_) (a' := ?_) #[Y,Y,Y,Y,Y,Y,Y,Y,Y,Y] rfl rfl (any_of HT_.out (by kernel_rfl)) (fun _ _ _ h => h) (Or.inl ⟨by rfl, ?_⟩) ?_ ?_; rotate_left
       ·intro w'; go_simp; with_reducible rfl
       rotate_left
       ·simp only [Act.put, sA,sB,sC, i64_w, i32_w]; rfl
       refine done_ (done_of HT_.out (by kernel_rfl)) ?_
       try go_wp2
       go_meet
       case rel => exact ⟨_, (((strOfNums t179).toList != (strOfNums l1).toList)), (by first | rfl | (simp; done) | (simp [*]; done)), H', ⟨by have := HJ6.out; first | omega | exact Nat.le_refl _⟩, ⟨by (with_reducible repeat (first | apply Kd.S_alloc | apply Kd.S_drewN | apply Kd.S_drew)); exact Kd.S_mono HO177.out (fun _ hk => trivial)⟩, ⟨by repeat (first | (with_reducible first | exact HB.out | apply below_alloc | apply pw_below_drewN | apply below_drew1) | exact HB.out)⟩⟩
      ·rw [if_neg c13] at H
       have c13b0 : (t178 == 0) = false := beq_eq_false_iff_ne.mpr c13
       have c13b1 : (t178 != 0) = true := bne_iff_ne.mpr c13
       (first | rw [c13b0] | (simp only [i64_w, i32_w]; rw [c13b0]) | skip)
       have H' := Aside0.mk H
       clear H
       try go_wp2
       have n0_ := Aside0.mk (Kd.S_drew HO177.out)
       have n1_ := Aside0.mk (below_drew1 HB.out)
       clear HO177
       clear HB
       have HO177 := n0_
       have HB := n1_
       clear n0_ n1_
       refine start_ (n := 10) (S := fun w' => True) (ds := []) #[N,N,N,N,N,N,N,N,N,N] (by kernel_rfl) rfl rfl trivial (fun hHeld => ?_); refine with_tabW tattinglaw1_TokBack.tab9 tattinglaw1_TokBack.bits9 (fun HT_ HW_ => ?_)
       generalize w12.drew = w21 at HO177 HB hHeld ⊢
       refine pure_ (i := 0) (N := some 21) (v := ?_) (a' := ?_) #[Y,N,N,N,N,N,N,N,N,N] rfl rfl (any_of HT_.out (by kernel_rfl)) (fun _ _ _ h => h) (Or.inl ⟨by rfl, ?_⟩) ?_ ?_; rotate_left
       ·intro w'; go_simp; with_reducible rfl
       rotate_left
       ·simp only [Act.put, sA,sB,sC, i64_w, i32_w]; rfl
       refine pure_ (i := 1) (N := some 22) (v := ?_) (a' := ?_) #[Y,Y,N,N,N,N,N,N,N,N] rfl rfl (any_of HT_.out (by kernel_rfl)) (fun _ _ _ h => h) (Or.inl ⟨by rfl, ?_⟩) ?_ ?_; rotate_left
       ·intro w'; go_simp; with_reducible rfl
       rotate_left
       ·simp only [Act.put, sA,sB,sC, i64_w, i32_w]; rfl
       refine pure_ (i := 2) (N := some 23) (v := ?_) (a' := ?_) #[Y,Y,Y,N,N,N,N,N,N,N] rfl rfl (any_of HT_.out (by kernel_rfl)) (fun _ _ _ h => h) (Or.inl ⟨by rfl, ?_⟩) ?_ ?_; rotate_left
       ·intro w'; go_simp; with_reducible rfl
       rotate_left
       ·simp only [Act.put, sA,sB,sC, i64_w, i32_w]; rfl
       refine pure_ (i := 3) (N := some 24) (v := undef) (a' := ?_) #[Y,Y,Y,Y,N,N,N,N,N,N] rfl rfl (any_of HT_.out (by kernel_rfl)) (fun _ _ _ h => h) (Or.inr ⟨by rfl, rfl⟩) ?_ ?_; rotate_left
       ·simp only [Act.put, sA,sB,sC, i64_w, i32_w]; rfl
       refine pure_ (i := 4) (N := some 25) (v := undef) (a' := ?_) #[Y,Y,Y,Y,Y,N,N,N,N,N] rfl rfl (any_of HT_.out (by kernel_rfl)) (fun _ _ _ h => h) (Or.inr ⟨by rfl, rfl⟩) ?_ ?_; rotate_left
       ·simp only [Act.put, sA,sB,sC, i64_w, i32_w]; rfl
       refine pure_ (i := 5) (N := some 26) (v := undef) (a' := ?_) #[Y,Y,Y,Y,Y,Y,N,N,N,N] rfl rfl (any_of HT_.out (by kernel_rfl)) (fun _ _ _ h => h) (Or.inr ⟨by rfl, rfl⟩) ?_ ?_; rotate_left
       ·simp only [Act.put, sA,sB,sC, i64_w, i32_w]; rfl
       refine pure_ (i := 6) (N := some 27) (v := undef) (a' := ?_) #[Y,Y,Y,Y,Y,Y,Y,N,N,N] rfl rfl (any_of HT_.out (by kernel_rfl)) (fun _ _ _ h => h) (Or.inr ⟨by rfl, rfl⟩) ?_ ?_; rotate_left
       ·simp only [Act.put, sA,sB,sC, i64_w, i32_w]; rfl
       refine pure_ (i := 7) (N := some 28) (v := undef) (a' := ?_) #[Y,Y,Y,Y,Y,Y,Y,Y,N,N] rfl rfl (any_of HT_.out (by kernel_rfl)) (fun _ _ _ h => h) (Or.inr ⟨by rfl, rfl⟩) ?_ ?_; rotate_left
       ·simp only [Act.put, sA,sB,sC, i64_w, i32_w]; rfl
       refine pure_ (i := 8) (N := some 29) (v := undef) (a' := ?_) #[Y,Y,Y,Y,Y,Y,Y,Y,Y,N] rfl rfl (any_of HT_.out (by kernel_rfl)) (fun _ _ _ h => h) (Or.inr ⟨by rfl, rfl⟩) ?_ ?_; rotate_left
       ·simp only [Act.put, sA,sB,sC, i64_w, i32_w]; rfl
       refine pure_ (i := 9) (N := some 30) (v := ?_) (a' := ?_) #[Y,Y,Y,Y,Y,Y,Y,Y,Y,Y] rfl rfl (any_of HT_.out (by kernel_rfl)) (fun _ _ _ h => h) (Or.inl ⟨by rfl, ?_⟩) ?_ ?_; rotate_left
       ·intro w'; go_simp; with_reducible rfl
       rotate_left
       ·simp only [Act.put, sA,sB,sC, i64_w, i32_w]; rfl
       refine done_ (done_of HT_.out (by kernel_rfl)) ?_
       try go_wp2
       go_meet
       case rel => exact ⟨_, (true), (by first | rfl | (simp; done) | (simp [*]; done)), H', ⟨by have := HJ6.out; first | omega | exact Nat.le_refl _⟩, ⟨by (with_reducible repeat (first | apply Kd.S_alloc | apply Kd.S_drewN | apply Kd.S_drew)); exact HO177.out⟩, ⟨by repeat (first | (with_reducible first | exact HB.out | apply below_alloc | apply pw_below_drewN | apply below_drew1) | exact HB.out)⟩⟩
     case rest =>
      clear HC11
      try clear c1
      try clear hcv1
      try clear p2
      try clear c3
      try clear c4
      try clear c5
      try clear c5b0
      try clear c5b1
      try clear c9
      try clear c10
      try clear c11
      try clear c13
      try clear c13b0
      try clear c13b1
      try clear hcv17
      try clear hcv18
      try clear hcv19
      try clear p2
      obtain ⟨kq, x30_10, rfl, HA, HJ10, HO_6, HB⟩ := hcut
      cases kq with
      | zero => exact absurd HA.out (by simp [tattinglaw1_TokBack.j1])
      | succ kj10 =>
       have H := HA.out
       clear HA
       simp only [tattinglaw1_TokBack.j1] at H
       by_cases c22 : x30_10 = true
       ·subst c22
        have H1 : (some false) = some r := by rw [if_pos rfl] at H; exact H
        clear H
        have H := H1
        clear H1
        exact absurd (Option.some.inj H) (by rw [hr_]; decide)
       ·replace c22 := Bool.eq_false_iff.mpr c22
        subst c22
        have H1 : (tattinglaw1_TokBack.l0 kj10 a0 x5_6 t175 0) = some r := by rw [if_neg (show ¬ (false = true) by decide)] at H; exact H
        clear H
        have H := H1
        clear H1
        have H' := Aside0.mk H
        clear H
        go_wp2
        go_loopg [8] kj10 (fun kq v8 w' => ∃ (x8_3 : Int), v8 = .int .i64 x8_3 ∧ Aside0 (tattinglaw1_TokBack.l0 kq a0 x5_6 t175 x8_3 = some r) ∧ Aside0 (kq ≤ kj10) ∧ Aside0 (Kd.S (Kd.slice 5 (Kd.int .u8)) 22 w' w.heap.size (fun _ => True) v176 t175) ∧ Aside0 (Below w.heap.size w w'))
        case atStart => exact ⟨(0), (by first | rfl | (simp; done) | (simp [*]; done)), H', ⟨Nat.le_refl _⟩, ⟨by (with_reducible repeat (first | apply Kd.S_alloc | apply Kd.S_drewN | apply Kd.S_drew)); exact HO_6.out⟩, ⟨by repeat (first | (with_reducible first | exact HB.out | apply below_alloc | apply pw_below_drewN | apply below_drew1) | exact HB.out)⟩⟩
        case round =>
         clear H'
         try clear c1
         try clear hcv1
         try clear c2
         try clear p2
         try clear c3
         try clear c4
         try clear c5
         try clear c5b0
         try clear c5b1
         try clear c9
         try clear c10
         try clear c11
         try clear c13
         try clear c13b0
         try clear c13b1
         try clear hcv17
         try clear hcv18
         try clear hcv19
         try clear c22
         try clear p2
         obtain ⟨x8_3, rfl, HA, HK3, HO_6, HB⟩ := hrel
         cases gk with
         | zero => exact absurd HA.out (by simp [tattinglaw1_TokBack.l0])
         | succ k3 =>
          have H := HA.out
          clear HA
          simp only [tattinglaw1_TokBack.l0] at H
          by_cases c23 : x8_3 < (t175.length : Int)
          ·rw [if_pos c23] at H
           have c23b0 : decide (x8_3 < (t175.length : Int)) = true := decide_eq_true c23
           clear c23
           by_cases c24 : 0 ≤ x8_3
           ·rw [if_pos c24] at H
            have c24b0 : decide (0 ≤ x8_3) = true := decide_eq_true c24
            clear c24
            replace H := Option.bind_eq_some_iff.mp H
            obtain ⟨t183, A250, H⟩ := H
            replace H : (if t183 = true then (if a0 = true then (if (wrap64 (x8_3 + 1)) < (t175.length : Int) then (if ((rd_L1 t175 x8_3).length : Int) = 0 then (some false) else (if 0 ≤ (wrap64 (((rd_L1 t175 x8_3).length : Int) - 1)) then (if (wrap64 (((rd_L1 t175 x8_3).length : Int) - 1)) < ((rd_L1 t175 x8_3).length : Int) then (if (rd (rd_L1 t175 x8_3) (wrap64 (((rd_L1 t175 x8_3).length : Int) - 1))) = 10 then (tattinglaw1_TokBack.l0 k3 a0 x5_6 t175 (wrap64 (x8_3 + 1))) else (some false)) else (none)) else (none))) else (tattinglaw1_TokBack.l0 k3 a0 x5_6 t175 (wrap64 (x8_3 + 1)))) else (tattinglaw1_TokBack.l0 k3 a0 x5_6 t175 (wrap64 (x8_3 + 1)))) else (some false)) = some r := H
            have A25 := Aside0.mk A250
            clear A250
            by_cases c26 : t183 = true
            ·subst c26
             have H1 : (if a0 = true then (if (wrap64 (x8_3 + 1)) < (t175.length : Int) then (if ((rd_L1 t175 x8_3).length : Int) = 0 then (some false) else (if 0 ≤ (wrap64 (((rd_L1 t175 x8_3).length : Int) - 1)) then (if (wrap64 (((rd_L1 t175 x8_3).length : Int) - 1)) < ((rd_L1 t175 x8_3).length : Int) then (if (rd (rd_L1 t175 x8_3) (wrap64 (((rd_L1 t175 x8_3).length : Int) - 1))) = 10 then (tattinglaw1_TokBack.l0 k3 a0 x5_6 t175 (wrap64 (x8_3 + 1))) else (some false)) else (none)) else (none))) else (tattinglaw1_TokBack.l0 k3 a0 x5_6 t175 (wrap64 (x8_3 + 1)))) else (tattinglaw1_TokBack.l0 k3 a0 x5_6 t175 (wrap64 (x8_3 + 1)))) = some r := by rw [if_pos rfl] at H; exact H
             clear H
             have H := H1
             clear H1
             by_cases c27 : a0 = true
             ·subst c27
              have H1 : (if (wrap64 (x8_3 + 1)) < (t175.length : Int) then (if ((rd_L1 t175 x8_3).length : Int) = 0 then (some false) else (if 0 ≤ (wrap64 (((rd_L1 t175 x8_3).length : Int) - 1)) then (if (wrap64 (((rd_L1 t175 x8_3).length : Int) - 1)) < ((rd_L1 t175 x8_3).length : Int) then (if (rd (rd_L1 t175 x8_3) (wrap64 (((rd_L1 t175 x8_3).length : Int) - 1))) = 10 then (tattinglaw1_TokBack.l0 k3 true x5_6 t175 (wrap64 (x8_3 + 1))) else (some false)) else (none)) else (none))) else (tattinglaw1_TokBack.l0 k3 true x5_6 t175 (wrap64 (x8_3 + 1)))) = some r := by rw [if_pos rfl] at H; exact H
              clear H
              have H := H1
              clear H1
              by_cases c28 : (wrap64 (x8_3 + 1)) < (t175.length : Int)
              ·rw [if_pos c28] at H
               have c28b0 : decide ((wrap64 (x8_3 + 1)) < (t175.length : Int)) = true := decide_eq_true c28
               clear c28
               by_cases c29 : ((rd_L1 t175 x8_3).length : Int) = 0
               ·rw [if_pos c29] at H
                have c29b0 : (((rd_L1 t175 x8_3).length : Int) == 0) = true := beq_iff_eq.mpr c29
                have c29b1 : (((rd_L1 t175 x8_3).length : Int) != 0) = false := bne_eq_false_iff_eq.mpr c29
                clear c29
                exact absurd (Option.some.inj H) (by rw [hr_]; decide)
               ·rw [if_neg c29] at H
                have c29b0 : (((rd_L1 t175 x8_3).length : Int) == 0) = false := beq_eq_false_iff_ne.mpr c29
                have c29b1 : (((rd_L1 t175 x8_3).length : Int) != 0) = true := bne_iff_ne.mpr c29
                have c29b2 : ¬ ((rd_L1 t175 x8_3) = []) := fun h_ => c29 (by rw [h_]; rfl)
                obtain ⟨ji30, hji30⟩ : ∃ j_ : Int, (wrap64 (((rd_L1 t175 x8_3).length : Int) - 1)) = j_ := ⟨_, rfl⟩
                replace H : (if 0 ≤ (ji30) then (if (ji30) < ((rd_L1 t175 x8_3).length : Int) then (if (rd (rd_L1 t175 x8_3) (ji30)) = 10 then (tattinglaw1_TokBack.l0 k3 true x5_6 t175 (wrap64 (x8_3 + 1))) else (some false)) else (none)) else (none)) = some r := by first | (rw [hji30] at H; exact H) | (simp only [hji30] at H ⊢; exact H)
                (try rw [hji30] at A25)
                have hji30w : (IntKind.i64.wrap (((rd_L1 t175 x8_3).length : Int) - 1)) = ji30 := (i64_w _).trans hji30
                by_cases c31 : 0 ≤ (ji30)
                ·rw [if_pos c31] at H
                 have c31b0 : decide (0 ≤ (ji30)) = true := decide_eq_true c31
                 clear c31
                 by_cases c32 : (ji30) < ((rd_L1 t175 x8_3).length : Int)
                 ·rw [if_pos c32] at H
                  have c32b0 : decide ((ji30) < ((rd_L1 t175 x8_3).length : Int)) = true := decide_eq_true c32
                  clear c32
                  by_cases c33 : (rd (rd_L1 t175 x8_3) (ji30)) = 10
                  ·rw [if_pos c33] at H
                   have c33b0 : ((rd (rd_L1 t175 x8_3) (ji30)) == 10) = true := beq_iff_eq.mpr c33
                   have c33b1 : ((rd (rd_L1 t175 x8_3) (ji30)) != 10) = false := bne_eq_false_iff_eq.mpr c33
                   clear c33
                   have H' := Aside0.mk H
                   clear H
                   obtain ⟨Ao34, co34, eo34⟩ := Kd.S_slice HO_6.out
                   subst eo34
                   try go_wp2
                   have n0_ := Aside0.mk (Kd.S_drew HO_6.out)
                   have n1_ := Aside0.mk (below_drew1 HB.out)
                   clear HO_6
                   clear HB
                   have HO_6 := n0_
                   have HB := n1_
                   clear n0_ n1_
                   have p182 : 0 ≤ (x8_3 : Int) := of_decide_eq_true (by first | (with_reducible assumption) | assumption)
                   have q182 : x8_3 < (t175.length : Int) := of_decide_eq_true (by first | (with_reducible assumption) | assumption)
                   try (obtain ⟨Ap182, cp182, ep182⟩ := Kd.S_slice HO_6.out; subst ep182)
                   obtain ⟨ad182, A182_0, c182_0, e182, hx182_0, hl182_0, hi182_0⟩ := at_L1 (Kd.S_reads' HO_6.out).2.2 x8_3 p182 q182
                   cases e182
                   obtain ⟨ce182, hce182, hMe182, hcc182⟩ := Kd.S_get HO_6.out [] x8_3 p182 (by first | exact q182 | exact of_decide_eq_true (by first | (with_reducible assumption) | assumption) | (have e_ := (Kd.S_reads' HO_6.out).1; omega))
                   obtain ⟨ve182_0, rfl, ge182_0⟩ := hMe182
                   have hv182_0 := hcc182 0 _ rfl
                   rw [Nat.add_zero, show ((Kd.slice 5 (Kd.int .u8))).sz = 1 from rfl, Nat.mul_one] at hv182_0
                   replace hv182_0 := Option.some.inj (hv182_0.symm.trans hx182_0)
                   rw [hv182_0] at ge182_0
                   have HL182_0 := Aside0.mk (show Kd.R (Kd.int .u8) 5 _ _ _ _ (rd_L1 t175 x8_3) from ge182_0)
                   clear hv182_0 ge182_0
                   clear hcc182 hce182
                   have HR182_0 := Aside0.mk hi182_0
                   have HC182_0 := Aside0.mk hl182_0
                   clear hi182_0 hl182_0
                   replace p182 := eq_true p182
                   replace q182 := eq_true q182
                   have p184 : 0 ≤ (x8_3 : Int) := of_decide_eq_true (by first | (with_reducible assumption) | assumption)
                   have q184 : x8_3 < (t175.length : Int) := of_decide_eq_true (by first | (with_reducible assumption) | assumption)
                   try (obtain ⟨Ap184, cp184, ep184⟩ := Kd.S_slice HO_6.out; subst ep184)
                   obtain ⟨ad184, A184_0, c184_0, e184, hx184_0, hl184_0, hi184_0⟩ := at_L1 (Kd.S_reads' HO_6.out).2.2 x8_3 p184 q184
                   obtain rfl : ad182 = ad184 := (by injection e184)
                   obtain ⟨ce184, hce184, hMe184, hcc184⟩ := Kd.S_get HO_6.out [] x8_3 p184 (by first | exact q184 | exact of_decide_eq_true (by first | (with_reducible assumption) | assumption) | (have e_ := (Kd.S_reads' HO_6.out).1; omega))
                   obtain ⟨ve184_0, rfl, ge184_0⟩ := hMe184
                   have hv184_0 := hcc184 0 _ rfl
                   rw [Nat.add_zero, show ((Kd.slice 5 (Kd.int .u8))).sz = 1 from rfl, Nat.mul_one] at hv184_0
                   replace hv184_0 := Option.some.inj (hv184_0.symm.trans hx184_0)
                   rw [hv184_0] at ge184_0
                   have HL184_0 := Aside0.mk (show Kd.R (Kd.int .u8) 5 _ _ _ _ (rd_L1 t175 x8_3) from ge184_0)
                   clear hv184_0 ge184_0
                   clear hcc184 hce184
                   have HR184_0 := Aside0.mk hi184_0
                   have HC184_0 := Aside0.mk hl184_0
                   clear hi184_0 hl184_0
                   replace p184 := eq_true p184
                   replace q184 := eq_true q184
                   have ea_ := Option.some.inj (hx182_0.symm.trans hx184_0)
                   injection ea_ with ea_ en_ ec_
                   subst ea_
                   subst ec_
                   clear en_
                   have p185 : 0 ≤ (x8_3 : Int) := of_decide_eq_true (by first | (with_reducible assumption) | assumption)
                   have q185 : x8_3 < (t175.length : Int) := of_decide_eq_true (by first | (with_reducible assumption) | assumption)
                   try (obtain ⟨Ap185, cp185, ep185⟩ := Kd.S_slice HO_6.out; subst ep185)
                   obtain ⟨ad185, A185_0, c185_0, e185, hx185_0, hl185_0, hi185_0⟩ := at_L1 (Kd.S_reads' HO_6.out).2.2 x8_3 p185 q185
                   obtain rfl : ad182 = ad185 := (by injection e185)
                   obtain ⟨ce185, hce185, hMe185, hcc185⟩ := Kd.S_get HO_6.out [] x8_3 p185 (by first | exact q185 | exact of_decide_eq_true (by first | (with_reducible assumption) | assumption) | (have e_ := (Kd.S_reads' HO_6.out).1; omega))
                   obtain ⟨ve185_0, rfl, ge185_0⟩ := hMe185
                   have hv185_0 := hcc185 0 _ rfl
                   rw [Nat.add_zero, show ((Kd.slice 5 (Kd.int .u8))).sz = 1 from rfl, Nat.mul_one] at hv185_0
                   replace hv185_0 := Option.some.inj (hv185_0.symm.trans hx185_0)
                   rw [hv185_0] at ge185_0
                   have HL185_0 := Aside0.mk (show Kd.R (Kd.int .u8) 5 _ _ _ _ (rd_L1 t175 x8_3) from ge185_0)
                   clear hv185_0 ge185_0
                   clear hcc185 hce185
                   have HR185_0 := Aside0.mk hi185_0
                   have HC185_0 := Aside0.mk hl185_0
                   clear hi185_0 hl185_0
                   replace p185 := eq_true p185
                   replace q185 := eq_true q185
                   have ea_ := Option.some.inj (hx182_0.symm.trans hx185_0)
                   injection ea_ with ea_ en_ ec_
                   subst ea_
                   subst ec_
                   clear en_
                   have p186 : 0 ≤ (x8_3 : Int) := of_decide_eq_true (by first | (with_reducible assumption) | assumption)
                   have q186 : x8_3 < (t175.length : Int) := of_decide_eq_true (by first | (with_reducible assumption) | assumption)
                   try (obtain ⟨Ap186, cp186, ep186⟩ := Kd.S_slice HO_6.out; subst ep186)
                   obtain ⟨ad186, A186_0, c186_0, e186, hx186_0, hl186_0, hi186_0⟩ := at_L1 (Kd.S_reads' HO_6.out).2.2 x8_3 p186 q186
                   obtain rfl : ad182 = ad186 := (by injection e186)
                   obtain ⟨ce186, hce186, hMe186, hcc186⟩ := Kd.S_get HO_6.out [] x8_3 p186 (by first | exact q186 | exact of_decide_eq_true (by first | (with_reducible assumption) | assumption) | (have e_ := (Kd.S_reads' HO_6.out).1; omega))
                   obtain ⟨ve186_0, rfl, ge186_0⟩ := hMe186
                   have hv186_0 := hcc186 0 _ rfl
                   rw [Nat.add_zero, show ((Kd.slice 5 (Kd.int .u8))).sz = 1 from rfl, Nat.mul_one] at hv186_0
                   replace hv186_0 := Option.some.inj (hv186_0.symm.trans hx186_0)
                   rw [hv186_0] at ge186_0
                   have HL186_0 := Aside0.mk (show Kd.R (Kd.int .u8) 5 _ _ _ _ (rd_L1 t175 x8_3) from ge186_0)
                   clear hv186_0 ge186_0
                   clear hcc186 hce186
                   have HR186_0 := Aside0.mk hi186_0
                   have HC186_0 := Aside0.mk hl186_0
                   clear hi186_0 hl186_0
                   replace p186 := eq_true p186
                   replace q186 := eq_true q186
                   have ea_ := Option.some.inj (hx182_0.symm.trans hx186_0)
                   injection ea_ with ea_ en_ ec_
                   subst ea_
                   subst ec_
                   clear en_
                   have p187 : 0 ≤ ((ji30) : Int) := of_decide_eq_true (by first | (with_reducible assumption) | assumption)
                   have q187 : (ji30) < ((rd_L1 t175 x8_3).length : Int) := of_decide_eq_true (by first | (with_reducible assumption) | assumption)
                   obtain ⟨ad187, e187, hx187_0⟩ := Kd.at_int (by repeat (first | (with_reducible exact HR185_0.out) | (with_reducible refine Kd.C_alloc ?_ _) | (with_reducible refine Kd.C_drewN ?_ _) | (with_reducible refine Kd.C_drew ?_) | exact HR185_0.out)) (ji30) p187 q187
                   cases e187
                   replace p187 := eq_true p187
                   replace q187 := eq_true q187
                   refine start_ (n := 40) (S := fun w' => w'.cell? (ad182.add (x8_3).toNat) = some (.slice (some ad187) (rd_L1 t175 x8_3).length c182_0) ∧ w'.cell? (ad182.add (x8_3).toNat) = some (.slice (some ad187) (rd_L1 t175 x8_3).length c182_0) ∧ w'.cell? (ad182.add (x8_3).toNat) = some (.slice (some ad187) (rd_L1 t175 x8_3).length c182_0) ∧ w'.cell? (ad182.add (x8_3).toNat) = some (.slice (some ad187) (rd_L1 t175 x8_3).length c182_0) ∧ w'.cell? (ad187.add ((ji30)).toNat) = some (.int .u8 (rd (rd_L1 t175 x8_3) (ji30)))) (ds := []) #[N,N,N,N,N,N,N,N,N,N,N,N,N,N,N,N,N,N,N,N,N,N,N,N,N,N,N,N,N,N,N,N,N,N,N,N,N,N,N,N] (by kernel_rfl) rfl rfl ⟨hx182_0, hx184_0, hx185_0, hx186_0, hx187_0⟩ (fun hHeld => ?_); refine with_tabW tattinglaw1_TokBack.tab14 tattinglaw1_TokBack.bits14 (fun HT_ HW_ => ?_)
                   generalize wr.drew = w35 at HO_6 HB HL182_0 HL184_0 HL185_0 HL186_0 HR182_0 HR184_0 HR185_0 HR186_0 hx182_0 hx184_0 hx185_0 hx186_0 hx187_0 hHeld ⊢
                   refine pure_ (i := 0) (N := some 37) (v := ?_) (a' := ?_) #[Y,N,N,N,N,N,N,N,N,N,N,N,N,N,N,N,N,N,N,N,N,N,N,N,N,N,N,N,N,N,N,N,N,N,N,N,N,N,N,N] rfl rfl (any_of HT_.out (by kernel_rfl)) (fun _ _ _ h => h) (Or.inl ⟨by rfl, ?_⟩) ?_ ?_; rotate_left
                   ·intro w'; go_simp; with_reducible rfl
                   rotate_left
                   ·simp only [Act.put, sA,sB,sC, i64_w, i32_w]; rfl
                   refine pure_ (i := 1) (N := some 38) (v := ?_) (a' := ?_) #[Y,Y,N,N,N,N,N,N,N,N,N,N,N,N,N,N,N,N,N,N,N,N,N,N,N,N,N,N,N,N,N,N,N,N,N,N,N,N,N,N] rfl rfl (any_of HT_.out (by kernel_rfl)) (fun _ _ _ h => h) (Or.inl ⟨by rfl, ?_⟩) ?_ ?_; rotate_left
                   ·intro w'; go_simp; with_reducible rfl
                   rotate_left
                   ·simp only [Act.put, sA,sB,sC, i64_w, i32_w]; rfl
                   refine pure_ (i := 2) (N := some 39) (v := ?_) (a' := ?_) #[Y,Y,Y,N,N,N,N,N,N,N,N,N,N,N,N,N,N,N,N,N,N,N,N,N,N,N,N,N,N,N,N,N,N,N,N,N,N,N,N,N] rfl rfl (any_of HT_.out (by kernel_rfl)) (fun _ _ _ h => h) (Or.inl ⟨by rfl, ?_⟩) ?_ ?_; rotate_left
                   ·intro w'; go_simp; with_reducible rfl
                   rotate_left
                   ·simp only [Act.put, sA,sB,sC, i64_w, i32_w]; rfl
                   refine pure_ (i := 3) (N := some 40) (v := ?_) (a' := ?_) #[Y,Y,Y,Y,N,N,N,N,N,N,N,N,N,N,N,N,N,N,N,N,N,N,N,N,N,N,N,N,N,N,N,N,N,N,N,N,N,N,N,N] rfl rfl (any_of HT_.out (by kernel_rfl)) (fun _ _ _ h => h) (Or.inl ⟨by rfl, ?_⟩) ?_ ?_; rotate_left
                   ·intro w'; go_simp; with_reducible rfl
                   rotate_left
                   ·simp only [Act.put, sA,sB,sC, i64_w, i32_w]; rfl
                   refine take_ (i := 4) (N := some 41) (v := ?_) (a' := ?_) #[Y,Y,Y,Y,Y,N,N,N,N,N,N,N,N,N,N,N,N,N,N,N,N,N,N,N,N,N,N,N,N,N,N,N,N,N,N,N,N,N,N,N] rfl rfl (take_ofW HT_.out HW_.out (by kernel_rfl)) (fun _ _ _ h => h) (Or.inl ⟨by rfl, ?_⟩) hHeld ?_ ?_; rotate_left
                   ·rintro w' ⟨s0, s1, s2, s3, s4⟩; go_simp; with_reducible rfl
                   rotate_left
                   ·simp only [Act.put, sA,sB,sC, i64_w, i32_w]; rfl
                   refine one_ (i := 5) (N := some 42) #[Y,Y,Y,Y,Y,Y,N,N,N,N,N,N,N,N,N,N,N,N,N,N,N,N,N,N,N,N,N,N,N,N,N,N,N,N,N,N,N,N,N,N] rfl rfl (one_of HT_.out (by kernel_rfl)) (by decide) (fun K hK => ?_)
                   refine goes_ Try.func12 (by kernel_rfl) rfl #[.int .i64 x5_6, .slice (some ad187) (rd_L1 t175 x8_3).length c182_0] (by rfl) rfl rfl (by (try simp only [List.map_toArray, List.map_cons, List.map_nil]); first | done | rfl | (simp only [List.length_drop, List.length_take]; rfl)) ?_
                   with_reducible refine (tok_Is.calls x5_6 _ _ (rd_L1 t175 x8_3) true _ ?side1 ?side2 A25.out).mono ?_
                   (case side1 => repeat (first | exact (by repeat (first | (with_reducible exact HR182_0.out) | (with_reducible refine Kd.C_alloc ?_ _) | (with_reducible refine Kd.C_drewN ?_ _) | (with_reducible refine Kd.C_drew ?_) | exact HR182_0.out)) | (with_reducible refine Kd.C_alloc ?_ _) | (with_reducible refine Kd.C_drewN ?_ _) | (with_reducible refine Kd.C_drew ?_)))
                   (case side2 => exact HC182_0.out)
                   rintro e w' ⟨rfl, ⟨nd, rfl⟩⟩
                   refine ⟨_, rfl, ?_⟩
                   refine hK.out _ _ ⟨hHeld.1, hHeld.2.1, hHeld.2.2.1, hHeld.2.2.2.1, hHeld.2.2.2.2⟩ (fun hHeld => ?_)
                   clear hK K
                   refine norm_ (a' := ?_) ?_ ?_
                   rotate_left
                   ·show Act.put _ (some 42) _ = _
                    simp only [Act.put, sA,sB,sC, i64_w, i32_w]; rfl
                   refine pure_ (i := 6) (N := some 43) (v := ?_) (a' := ?_) #[Y,Y,Y,Y,Y,Y,Y,N,N,N,N,N,N,N,N,N,N,N,N,N,N,N,N,N,N,N,N,N,N,N,N,N,N,N,N,N,N,N,N,N] rfl rfl (any_of HT_.out (by kernel_rfl)) (fun _ _ _ h => h) (Or.inl ⟨by rfl, ?_⟩) ?_ ?_; rotate_left
                   ·intro w'; go_simp; with_reducible rfl
                   rotate_left
                   ·simp only [Act.put, sA,sB,sC, i64_w, i32_w]; rfl
                   refine pure_ (i := 7) (N := some 44) (v := ?_) (a' := ?_) #[Y,Y,Y,Y,Y,Y,Y,Y,N,N,N,N,N,N,N,N,N,N,N,N,N,N,N,N,N,N,N,N,N,N,N,N,N,N,N,N,N,N,N,N] rfl rfl (any_of HT_.out (by kernel_rfl)) (fun _ _ _ h => h) (Or.inl ⟨by rfl, ?_⟩) ?_ ?_; rotate_left
                   ·intro w'; go_simp; with_reducible rfl
                   rotate_left
                   ·simp only [Act.put, sA,sB,sC, i64_w, i32_w]; rfl
                   refine pure_ (i := 8) (N := some 45) (v := ?_) (a' := ?_) #[Y,Y,Y,Y,Y,Y,Y,Y,Y,N,N,N,N,N,N,N,N,N,N,N,N,N,N,N,N,N,N,N,N,N,N,N,N,N,N,N,N,N,N,N] rfl rfl (any_of HT_.out (by kernel_rfl)) (fun _ _ _ h => h) (Or.inl ⟨by rfl, ?_⟩) ?_ ?_; rotate_left
                   ·intro w'; go_simp; with_reducible rfl
                   rotate_left
                   ·simp only [Act.put, sA,sB,sC, i64_w, i32_w]; rfl
                   refine pure_ (i := 9) (N := some 46) (v := ?_) (a' := ?_) #[Y,Y,Y,Y,Y,Y,Y,Y,Y,Y,N,N,N,N,N,N,N,N,N,N,N,N,N,N,N,N,N,N,N,N,N,N,N,N,N,N,N,N,N,N] rfl rfl (any_of HT_.out (by kernel_rfl)) (fun _ _ _ h => h) (Or.inl ⟨by rfl, ?_⟩) ?_ ?_; rotate_left
                   ·intro w'; go_simp; with_reducible rfl
                   rotate_left
                   ·simp only [Act.put, sA,sB,sC, i64_w, i32_w]; rfl
                   refine pure_ (i := 10) (N := some 47) (v := ?_) (a' := ?_) #[Y,Y,Y,Y,Y,Y,Y,Y,Y,Y,Y,N,N,N,N,N,N,N,N,N,N,N,N,N,N,N,N,N,N,N,N,N,N,N,N,N,N,N,N,N] rfl rfl (any_of HT_.out (by kernel_rfl)) (fun _ _ _ h => h) (Or.inl ⟨by rfl, ?_⟩) ?_ ?_; rotate_left
                   ·intro w'; go_simp; with_reducible rfl
                   rotate_left
                   ·simp only [Act.put, sA,sB,sC, i64_w, i32_w]; rfl
                   refine pure_ (i := 11) (N := some 48) (v := ?_) (a' := ?_) #[Y,Y,Y,Y,Y,Y,Y,Y,Y,Y,Y,Y,N,N,N,N,N,N,N,N,N,N,N,N,N,N,N,N,N,N,N,N,N,N,N,N,N,N,N,N] rfl rfl (any_of HT_.out (by kernel_rfl)) (fun _ _ _ h => h) (Or.inl ⟨by rfl, ?_⟩) ?_ ?_; rotate_left
                   ·intro w'; go_simp; with_reducible rfl
                   rotate_left
                   ·simp only [Act.put, sA,sB,sC, i64_w, i32_w]; rfl
                   refine pure_ (i := 12) (N := some 49) (v := ?_) (a' := ?_) #[Y,Y,Y,Y,Y,Y,Y,Y,Y,Y,Y,Y,Y,N,N,N,N,N,N,N,N,N,N,N,N,N,N,N,N,N,N,N,N,N,N,N,N,N,N,N] rfl rfl (any_of HT_.out (by kernel_rfl)) (fun _ _ _ h => h) (Or.inl ⟨by rfl, ?_⟩) ?_ ?_; rotate_left
                   ·intro w'; go_simp; with_reducible rfl
                   rotate_left
                   ·simp only [Act.put, sA,sB,sC, i64_w, i32_w]; rfl
                   refine pure_ (i := 13) (N := some 50) (v := ?_) (a' := ?_) #[Y,Y,Y,Y,Y,Y,Y,Y,Y,Y,Y,Y,Y,Y,N,N,N,N,N,N,N,N,N,N,N,N,N,N,N,N,N,N,N,N,N,N,N,N,N,N] rfl rfl (any_of HT_.out (by kernel_rfl)) (fun _ _ _ h => h) (Or.inl ⟨by rfl, ?_⟩) ?_ ?_; rotate_left
                   ·intro w'; go_simp; with_reducible rfl
                   rotate_left
                   ·simp only [Act.put, sA,sB,sC, i64_w, i32_w]; rfl
                   refine pure_ (i := 14) (N := some 51) (v := ?_) (a' := ?_) #[Y,Y,Y,Y,Y,Y,Y,Y,Y,Y,Y,Y,Y,Y,Y,N,N,N,N,N,N,N,N,N,N,N,N,N,N,N,N,N,N,N,N,N,N,N,N,N] rfl rfl (any_of HT_.out (by kernel_rfl)) (fun _ _ _ h => h) (Or.inl ⟨by rfl, ?_⟩) ?_ ?_; rotate_left
                   ·intro w'; go_simp; with_reducible rfl
                   rotate_left
                   ·simp only [Act.put, sA,sB,sC, i64_w, i32_w]; rfl
                   refine pure_ (i := 15) (N := some 52) (v := ?_) (a' := ?_) #[Y,Y,Y,Y,Y,Y,Y,Y,Y,Y,Y,Y,Y,Y,Y,Y,N,N,N,N,N,N,N,N,N,N,N,N,N,N,N,N,N,N,N,N,N,N,N,N] rfl rfl (any_of HT_.out (by kernel_rfl)) (fun _ _ _ h => h) (Or.inl ⟨by rfl, ?_⟩) ?_ ?_; rotate_left
                   ·intro w'; go_simp; with_reducible rfl
                   rotate_left
                   ·simp only [Act.put, sA,sB,sC, i64_w, i32_w]; rfl
                   refine pure_ (i := 16) (N := some 53) (v := ?_) (a' := ?_) #[Y,Y,Y,Y,Y,Y,Y,Y,Y,Y,Y,Y,Y,Y,Y,Y,Y,N,N,N,N,N,N,N,N,N,N,N,N,N,N,N,N,N,N,N,N,N,N,N] rfl rfl (any_of HT_.out (by kernel_rfl)) (fun _ _ _ h => h) (Or.inl ⟨by rfl, ?_⟩) ?_ ?_; rotate_left
                   ·intro w'; go_simp; with_reducible rfl
                   rotate_left
                   ·simp only [Act.put, sA,sB,sC, i64_w, i32_w]; rfl
                   refine pure_ (i := 17) (N := some 54) (v := ?_) (a' := ?_) #[Y,Y,Y,Y,Y,Y,Y,Y,Y,Y,Y,Y,Y,Y,Y,Y,Y,Y,N,N,N,N,N,N,N,N,N,N,N,N,N,N,N,N,N,N,N,N,N,N] rfl rfl (any_of HT_.out (by kernel_rfl)) (fun _ _ _ h => h) (Or.inl ⟨by rfl, ?_⟩) ?_ ?_; rotate_left
                   ·intro w'; go_simp; with_reducible rfl
                   rotate_left
                   ·simp only [Act.put, sA,sB,sC, i64_w, i32_w]; rfl
                   refine pure_ (i := 18) (N := some 55) (v := ?_) (a' := ?_) #[Y,Y,Y,Y,Y,Y,Y,Y,Y,Y,Y,Y,Y,Y,Y,Y,Y,Y,Y,N,N,N,N,N,N,N,N,N,N,N,N,N,N,N,N,N,N,N,N,N] rfl rfl (any_of HT_.out (by kernel_rfl)) (fun _ _ _ h => h) (Or.inl ⟨by rfl, ?_⟩) ?_ ?_; rotate_left
                   ·intro w'; go_simp; with_reducible rfl
                   rotate_left
                   ·simp only [Act.put, sA,sB,sC, i64_w, i32_w]; rfl
                   refine pure_ (i := 19) (N := some 56) (v := ?_) (a' := ?_) #[Y,Y,Y,Y,Y,Y,Y,Y,Y,Y,Y,Y,Y,Y,Y,Y,Y,Y,Y,Y,N,N,N,N,N,N,N,N,N,N,N,N,N,N,N,N,N,N,N,N] rfl rfl (any_of HT_.out (by kernel_rfl)) (fun _ _ _ h => h) (Or.inl ⟨by rfl, ?_⟩) ?_ ?_; rotate_left
                   ·intro w'; go_simp; with_reducible rfl
                   rotate_left
                   ·simp only [Act.put, sA,sB,sC, i64_w, i32_w]; rfl
                   refine take_ (i := 20) (N := some 57) (v := ?_) (a' := ?_) #[Y,Y,Y,Y,Y,Y,Y,Y,Y,Y,Y,Y,Y,Y,Y,Y,Y,Y,Y,Y,Y,N,N,N,N,N,N,N,N,N,N,N,N,N,N,N,N,N,N,N] rfl rfl (take_ofW HT_.out HW_.out (by kernel_rfl)) (fun _ _ _ h => h) (Or.inl ⟨by rfl, ?_⟩) hHeld ?_ ?_; rotate_left
                   ·rintro w' ⟨s0, s1, s2, s3, s4⟩; go_simp; with_reducible rfl
                   rotate_left
                   ·simp only [Act.put, sA,sB,sC, i64_w, i32_w]; rfl
                   refine pure_ (i := 21) (N := some 58) (v := ?_) (a' := ?_) #[Y,Y,Y,Y,Y,Y,Y,Y,Y,Y,Y,Y,Y,Y,Y,Y,Y,Y,Y,Y,Y,Y,N,N,N,N,N,N,N,N,N,N,N,N,N,N,N,N,N,N] rfl rfl (any_of HT_.out (by kernel_rfl)) (fun _ _ _ h => h) (Or.inl ⟨by rfl, ?_⟩) ?_ ?_; rotate_left
                   ·intro w'; go_simp; with_reducible rfl
                   rotate_left
                   ·simp only [Act.put, sA,sB,sC, i64_w, i32_w]; rfl
                   refine pure_ (i := 22) (N := some 59) (v := ?_) (a' := ?_) #[Y,Y,Y,Y,Y,Y,Y,Y,Y,Y,Y,Y,Y,Y,Y,Y,Y,Y,Y,Y,Y,Y,Y,N,N,N,N,N,N,N,N,N,N,N,N,N,N,N,N,N] rfl rfl (any_of HT_.out (by kernel_rfl)) (fun _ _ _ h => h) (Or.inl ⟨by rfl, ?_⟩) ?_ ?_; rotate_left
                   ·intro w'; go_simp; with_reducible rfl
                   rotate_left
                   ·simp only [Act.put, sA,sB,sC, i64_w, i32_w]; rfl
                   refine pure_ (i := 23) (N := some 60) (v := ?_) (a' := ?_) #[Y,Y,Y,Y,Y,Y,Y,Y,Y,Y,Y,Y,Y,Y,Y,Y,Y,Y,Y,Y,Y,Y,Y,Y,N,N,N,N,N,N,N,N,N,N,N,N,N,N,N,N] rfl rfl (any_of HT_.out (by kernel_rfl)) (fun _ _ _ h => h) (Or.inl ⟨by rfl, ?_⟩) ?_ ?_; rotate_left
                   ·intro w'; go_simp; with_reducible rfl
                   rotate_left
                   ·simp only [Act.put, sA,sB,sC, i64_w, i32_w]; rfl
                   refine pure_ (i := 24) (N := some 61) (v := ?_) (a' := ?_) #[Y,Y,Y,Y,Y,Y,Y,Y,Y,Y,Y,Y,Y,Y,Y,Y,Y,Y,Y,Y,Y,Y,Y,Y,Y,N,N,N,N,N,N,N,N,N,N,N,N,N,N,N] rfl rfl (any_of HT_.out (by kernel_rfl)) (fun _ _ _ h => h) (Or.inl ⟨by rfl, ?_⟩) ?_ ?_; rotate_left
                   ·intro w'; go_simp; with_reducible rfl
                   rotate_left
                   ·simp only [Act.put, sA,sB,sC, i64_w, i32_w]; rfl
                   refine pure_ (i := 25) (N := some 62) (v := ?_) (a' := ?_) #[Y,Y,Y,Y,Y,Y,Y,Y,Y,Y,Y,Y,Y,Y,Y,Y,Y,Y,Y,Y,Y,Y,Y,Y,Y,Y,N,N,N,N,N,N,N,N,N,N,N,N,N,N] rfl rfl (any_of HT_.out (by kernel_rfl)) (fun _ _ _ h => h) (Or.inl ⟨by rfl, ?_⟩) ?_ ?_; rotate_left
                   ·intro w'; go_simp; with_reducible rfl
                   rotate_left
                   ·simp only [Act.put, sA,sB,sC, i64_w, i32_w]; rfl
                   refine pure_ (i := 26) (N := some 63) (v := ?_) (a' := ?_) #[Y,Y,Y,Y,Y,Y,Y,Y,Y,Y,Y,Y,Y,Y,Y,Y,Y,Y,Y,Y,Y,Y,Y,Y,Y,Y,Y,N,N,N,N,N,N,N,N,N,N,N,N,N] rfl rfl (any_of HT_.out (by kernel_rfl)) (fun _ _ _ h => h) (Or.inl ⟨by rfl, ?_⟩) ?_ ?_; rotate_left
                   ·intro w'; go_simp; with_reducible rfl
                   rotate_left
                   ·simp only [Act.put, sA,sB,sC, i64_w, i32_w]; rfl
                   refine pure_ (i := 28) (N := some 65) (v := ?_) (a' := ?_) #[Y,Y,Y,Y,Y,Y,Y,Y,Y,Y,Y,Y,Y,Y,Y,Y,Y,Y,Y,Y,Y,Y,Y,Y,Y,Y,Y,N,Y,N,N,N,N,N,N,N,N,N,N,N] rfl rfl (any_of HT_.out (by kernel_rfl)) (fun _ _ _ h => h) (Or.inl ⟨by rfl, ?_⟩) ?_ ?_; rotate_left
                   ·intro w'; go_simp; with_reducible rfl
                   rotate_left
                   ·simp only [Act.put, sA,sB,sC, i64_w, i32_w]; rfl
                   refine pure_ (i := 29) (N := some 66) (v := ?_) (a' := ?_) #[Y,Y,Y,Y,Y,Y,Y,Y,Y,Y,Y,Y,Y,Y,Y,Y,Y,Y,Y,Y,Y,Y,Y,Y,Y,Y,Y,N,Y,Y,N,N,N,N,N,N,N,N,N,N] rfl rfl (any_of HT_.out (by kernel_rfl)) (fun _ _ _ h => h) (Or.inl ⟨by rfl, ?_⟩) ?_ ?_; rotate_left
                   ·intro w'; go_simp; with_reducible rfl
                   rotate_left
                   ·simp only [Act.put, sA,sB,sC, i64_w, i32_w]; rfl
                   refine pure_ (i := 30) (N := some 67) (v := ?_) (a' := ?_) #[Y,Y,Y,Y,Y,Y,Y,Y,Y,Y,Y,Y,Y,Y,Y,Y,Y,Y,Y,Y,Y,Y,Y,Y,Y,Y,Y,N,Y,Y,Y,N,N,N,N,N,N,N,N,N] rfl rfl (any_of HT_.out (by kernel_rfl)) (fun _ _ _ h => h) (Or.inl ⟨by rfl, ?_⟩) ?_ ?_; rotate_left
                   ·intro w'; go_simp; with_reducible rfl
                   rotate_left
                   ·simp only [Act.put, sA,sB,sC, i64_w, i32_w]; rfl
                   refine take_ (i := 27) (N := some 64) (v := ?_) (a' := ?_) #[Y,Y,Y,Y,Y,Y,Y,Y,Y,Y,Y,Y,Y,Y,Y,Y,Y,Y,Y,Y,Y,Y,Y,Y,Y,Y,Y,Y,Y,Y,Y,N,N,N,N,N,N,N,N,N] rfl rfl (take_ofW HT_.out HW_.out (by kernel_rfl)) (fun _ _ _ h => h) (Or.inl ⟨by rfl, ?_⟩) hHeld ?_ ?_; rotate_left
                   ·rintro w' ⟨s0, s1, s2, s3, s4⟩; go_simp; with_reducible rfl
                   rotate_left
                   ·simp only [Act.put, sA,sB,sC, i64_w, i32_w]; rfl
                   refine take_ (i := 31) (N := some 68) (v := ?_) (a' := ?_) #[Y,Y,Y,Y,Y,Y,Y,Y,Y,Y,Y,Y,Y,Y,Y,Y,Y,Y,Y,Y,Y,Y,Y,Y,Y,Y,Y,Y,Y,Y,Y,Y,N,N,N,N,N,N,N,N] rfl rfl (take_ofW HT_.out HW_.out (by kernel_rfl)) (fun _ _ _ h => h) (Or.inl ⟨by rfl, ?_⟩) hHeld ?_ ?_; rotate_left
                   ·rintro w' ⟨s0, s1, s2, s3, s4⟩; go_simp; with_reducible rfl
                   rotate_left
                   ·simp only [Act.put, sA,sB,sC, i64_w, i32_w]; rfl
                   refine pure_ (i := 32) (N := some 69) (v := ?_) (a' := ?_) #[Y,Y,Y,Y,Y,Y,Y,Y,Y,Y,Y,Y,Y,Y,Y,Y,Y,Y,Y,Y,Y,Y,Y,Y,Y,Y,Y,Y,Y,Y,Y,Y,Y,N,N,N,N,N,N,N] rfl rfl (any_of HT_.out (by kernel_rfl)) (fun _ _ _ h => h) (Or.inl ⟨by rfl, ?_⟩) ?_ ?_; rotate_left
                   ·intro w'; go_simp; with_reducible rfl
                   rotate_left
                   ·simp only [Act.put, sA,sB,sC, i64_w, i32_w]; rfl
                   refine pure_ (i := 33) (N := some 70) (v := ?_) (a' := ?_) #[Y,Y,Y,Y,Y,Y,Y,Y,Y,Y,Y,Y,Y,Y,Y,Y,Y,Y,Y,Y,Y,Y,Y,Y,Y,Y,Y,Y,Y,Y,Y,Y,Y,Y,N,N,N,N,N,N] rfl rfl (any_of HT_.out (by kernel_rfl)) (fun _ _ _ h => h) (Or.inl ⟨by rfl, ?_⟩) ?_ ?_; rotate_left
                   ·intro w'; go_simp; with_reducible rfl
                   rotate_left
                   ·simp only [Act.put, sA,sB,sC, i64_w, i32_w]; rfl
                   refine pure_ (i := 34) (N := some 71) (v := ?_) (a' := ?_) #[Y,Y,Y,Y,Y,Y,Y,Y,Y,Y,Y,Y,Y,Y,Y,Y,Y,Y,Y,Y,Y,Y,Y,Y,Y,Y,Y,Y,Y,Y,Y,Y,Y,Y,Y,N,N,N,N,N] rfl rfl (any_of HT_.out (by kernel_rfl)) (fun _ _ _ h => h) (Or.inl ⟨by rfl, ?_⟩) ?_ ?_; rotate_left
                   ·intro w'; go_simp; with_reducible rfl
                   rotate_left
                   ·simp only [Act.put, sA,sB,sC, i64_w, i32_w]; rfl
                   refine take_ (i := 35) (N := some 72) (v := ?_) (a' := ?_) #[Y,Y,Y,Y,Y,Y,Y,Y,Y,Y,Y,Y,Y,Y,Y,Y,Y,Y,Y,Y,Y,Y,Y,Y,Y,Y,Y,Y,Y,Y,Y,Y,Y,Y,Y,Y,N,N,N,N] rfl rfl (take_ofW HT_.out HW_.out (by kernel_rfl)) (fun _ _ _ h => h) (Or.inl ⟨by rfl, ?_⟩) hHeld ?_ ?_; rotate_left
                   ·rintro w' ⟨s0, s1, s2, s3, s4⟩; go_simp; with_reducible rfl
                   rotate_left
                   ·simp only [Act.put, sA,sB,sC, i64_w, i32_w]; rfl
                   refine pure_ (i := 36) (N := some 73) (v := ?_) (a' := ?_) #[Y,Y,Y,Y,Y,Y,Y,Y,Y,Y,Y,Y,Y,Y,Y,Y,Y,Y,Y,Y,Y,Y,Y,Y,Y,Y,Y,Y,Y,Y,Y,Y,Y,Y,Y,Y,Y,N,N,N] rfl rfl (any_of HT_.out (by kernel_rfl)) (fun _ _ _ h => h) (Or.inl ⟨by rfl, ?_⟩) ?_ ?_; rotate_left
                   ·intro w'; go_simp; with_reducible rfl
                   rotate_left
                   ·simp only [Act.put, sA,sB,sC, i64_w, i32_w]; rfl
                   refine pure_ (i := 37) (N := some 74) (v := ?_) (a' := ?_) #[Y,Y,Y,Y,Y,Y,Y,Y,Y,Y,Y,Y,Y,Y,Y,Y,Y,Y,Y,Y,Y,Y,Y,Y,Y,Y,Y,Y,Y,Y,Y,Y,Y,Y,Y,Y,Y,Y,N,N] rfl rfl (any_of HT_.out (by kernel_rfl)) (fun _ _ _ h => h) (Or.inl ⟨by rfl, ?_⟩) ?_ ?_; rotate_left
                   ·intro w'; go_simp; with_reducible rfl
                   rotate_left
                   ·simp only [Act.put, sA,sB,sC, i64_w, i32_w]; rfl
                   refine pure_ (i := 38) (N := some 75) (v := ?_) (a' := ?_) #[Y,Y,Y,Y,Y,Y,Y,Y,Y,Y,Y,Y,Y,Y,Y,Y,Y,Y,Y,Y,Y,Y,Y,Y,Y,Y,Y,Y,Y,Y,Y,Y,Y,Y,Y,Y,Y,Y,Y,N] rfl rfl (any_of HT_.out (by kernel_rfl)) (fun _ _ _ h => h) (Or.inl ⟨by rfl, ?_⟩) ?_ ?_; rotate_left
                   ·intro w'; go_simp; with_reducible rfl
                   rotate_left
                   ·simp only [Act.put, sA,sB,sC, i64_w, i32_w]; rfl
                   refine pure_ (i := 39) (N := some 76) (v := ?_) (a' := ?_) #[Y,Y,Y,Y,Y,Y,Y,Y,Y,Y,Y,Y,Y,Y,Y,Y,Y,Y,Y,Y,Y,Y,Y,Y,Y,Y,Y,Y,Y,Y,Y,Y,Y,Y,Y,Y,Y,Y,Y,Y] rfl rfl (any_of HT_.out (by kernel_rfl)) (fun _ _ _ h => h) (Or.inl ⟨by rfl, ?_⟩) ?_ ?_; rotate_left
                   ·intro w'; go_simp; with_reducible rfl
                   rotate_left
                   ·simp only [Act.put, sA,sB,sC, i64_w, i32_w]; rfl
                   refine done_ (done_of HT_.out (by kernel_rfl)) ?_
                   try go_wp2
                   go_roundg k3
                   case measure => have := HJ6.out; have := HJ10.out; have := HK3.out; omega
                   case rel => exact ⟨(wrap64 (x8_3 + 1)), (by first | rfl | (simp; done) | (simp [*]; done)), H', ⟨by have := HJ6.out; have := HJ10.out; have := HK3.out; omega⟩, ⟨by (with_reducible repeat (first | apply Kd.S_alloc | apply Kd.S_drewN | apply Kd.S_drew)); exact HO_6.out⟩, ⟨by repeat (first | (with_reducible first | exact HB.out | apply below_alloc | apply pw_below_drewN | apply below_drew1) | exact HB.out)⟩⟩
                  ·rw [if_neg c33] at H
                   have c33b0 : ((rd (rd_L1 t175 x8_3) (ji30)) == 10) = false := beq_eq_false_iff_ne.mpr c33
                   have c33b1 : ((rd (rd_L1 t175 x8_3) (ji30)) != 10) = true := bne_iff_ne.mpr c33
                   exact absurd (Option.some.inj H) (by rw [hr_]; decide)
                 ·rw [if_neg c32] at H
                  exact absurd H (by simp)
                ·rw [if_neg c31] at H
                 exact absurd H (by simp)
              ·rw [if_neg c28] at H
               have c28b0 : decide ((wrap64 (x8_3 + 1)) < (t175.length : Int)) = false := decide_eq_false c28
               clear c28
               have H' := Aside0.mk H
               clear H
               obtain ⟨Ao36, co36, eo36⟩ := Kd.S_slice HO_6.out
               subst eo36
               try go_wp2
               have n0_ := Aside0.mk (Kd.S_drew HO_6.out)
               have n1_ := Aside0.mk (below_drew1 HB.out)
               clear HO_6
               clear HB
               have HO_6 := n0_
               have HB := n1_
               clear n0_ n1_
               have p182 : 0 ≤ (x8_3 : Int) := of_decide_eq_true (by first | (with_reducible assumption) | assumption)
               have q182 : x8_3 < (t175.length : Int) := of_decide_eq_true (by first | (with_reducible assumption) | assumption)
               try (obtain ⟨Ap182, cp182, ep182⟩ := Kd.S_slice HO_6.out; subst ep182)
               obtain ⟨ad182, A182_0, c182_0, e182, hx182_0, hl182_0, hi182_0⟩ := at_L1 (Kd.S_reads' HO_6.out).2.2 x8_3 p182 q182
               cases e182
               obtain ⟨ce182, hce182, hMe182, hcc182⟩ := Kd.S_get HO_6.out [] x8_3 p182 (by first | exact q182 | exact of_decide_eq_true (by first | (with_reducible assumption) | assumption) | (have e_ := (Kd.S_reads' HO_6.out).1; omega))
               obtain ⟨ve182_0, rfl, ge182_0⟩ := hMe182
               have hv182_0 := hcc182 0 _ rfl
               rw [Nat.add_zero, show ((Kd.slice 5 (Kd.int .u8))).sz = 1 from rfl, Nat.mul_one] at hv182_0
               replace hv182_0 := Option.some.inj (hv182_0.symm.trans hx182_0)
               rw [hv182_0] at ge182_0
               have HL182_0 := Aside0.mk (show Kd.R (Kd.int .u8) 5 _ _ _ _ (rd_L1 t175 x8_3) from ge182_0)
               clear hv182_0 ge182_0
               clear hcc182 hce182
               have HR182_0 := Aside0.mk hi182_0
               have HC182_0 := Aside0.mk hl182_0
               clear hi182_0 hl182_0
               replace p182 := eq_true p182
               replace q182 := eq_true q182
               refine start_ (n := 40) (S := fun w' => w'.cell? (ad182.add (x8_3).toNat) = some (.slice A182_0 (rd_L1 t175 x8_3).length c182_0)) (ds := []) #[N,N,N,N,N,N,N,N,N,N,N,N,N,N,N,N,N,N,N,N,N,N,N,N,N,N,N,N,N,N,N,N,N,N,N,N,N,N,N,N] (by kernel_rfl) rfl rfl (hx182_0) (fun hHeld => ?_); refine with_tabW tattinglaw1_TokBack.tab14 tattinglaw1_TokBack.bits14 (fun HT_ HW_ => ?_)
               generalize wr.drew = w37 at HO_6 HB HL182_0 HR182_0 hx182_0 hHeld ⊢
               refine pure_ (i := 0) (N := some 37) (v := ?_) (a' := ?_) #[Y,N,N,N,N,N,N,N,N,N,N,N,N,N,N,N,N,N,N,N,N,N,N,N,N,N,N,N,N,N,N,N,N,N,N,N,N,N,N,N] rfl rfl (any_of HT_.out (by kernel_rfl)) (fun _ _ _ h => h) (Or.inl ⟨by rfl, ?_⟩) ?_ ?_; rotate_left
               ·intro w'; go_simp; with_reducible rfl
               rotate_left
               ·simp only [Act.put, sA,sB,sC, i64_w, i32_w]; rfl
               refine pure_ (i := 1) (N := some 38) (v := ?_) (a' := ?_) #[Y,Y,N,N,N,N,N,N,N,N,N,N,N,N,N,N,N,N,N,N,N,N,N,N,N,N,N,N,N,N,N,N,N,N,N,N,N,N,N,N] rfl rfl (any_of HT_.out (by kernel_rfl)) (fun _ _ _ h => h) (Or.inl ⟨by rfl, ?_⟩) ?_ ?_; rotate_left
               ·intro w'; go_simp; with_reducible rfl
               rotate_left
               ·simp only [Act.put, sA,sB,sC, i64_w, i32_w]; rfl
               refine pure_ (i := 2) (N := some 39) (v := ?_) (a' := ?_) #[Y,Y,Y,N,N,N,N,N,N,N,N,N,N,N,N,N,N,N,N,N,N,N,N,N,N,N,N,N,N,N,N,N,N,N,N,N,N,N,N,N] rfl rfl (any_of HT_.out (by kernel_rfl)) (fun _ _ _ h => h) (Or.inl ⟨by rfl, ?_⟩) ?_ ?_; rotate_left
               ·intro w'; go_simp; with_reducible rfl
               rotate_left
               ·simp only [Act.put, sA,sB,sC, i64_w, i32_w]; rfl
               refine pure_ (i := 3) (N := some 40) (v := ?_) (a' := ?_) #[Y,Y,Y,Y,N,N,N,N,N,N,N,N,N,N,N,N,N,N,N,N,N,N,N,N,N,N,N,N,N,N,N,N,N,N,N,N,N,N,N,N] rfl rfl (any_of HT_.out (by kernel_rfl)) (fun _ _ _ h => h) (Or.inl ⟨by rfl, ?_⟩) ?_ ?_; rotate_left
               ·intro w'; go_simp; with_reducible rfl
               rotate_left
               ·simp only [Act.put, sA,sB,sC, i64_w, i32_w]; rfl
               refine take_ (i := 4) (N := some 41) (v := ?_) (a' := ?_) #[Y,Y,Y,Y,Y,N,N,N,N,N,N,N,N,N,N,N,N,N,N,N,N,N,N,N,N,N,N,N,N,N,N,N,N,N,N,N,N,N,N,N] rfl rfl (take_ofW HT_.out HW_.out (by kernel_rfl)) (fun _ _ _ h => h) (Or.inl ⟨by rfl, ?_⟩) hHeld ?_ ?_; rotate_left
               ·intro w' s0
                go_simp; with_reducible rfl
               rotate_left
               ·simp only [Act.put, sA,sB,sC, i64_w, i32_w]; rfl
               refine one_ (i := 5) (N := some 42) #[Y,Y,Y,Y,Y,Y,N,N,N,N,N,N,N,N,N,N,N,N,N,N,N,N,N,N,N,N,N,N,N,N,N,N,N,N,N,N,N,N,N,N] rfl rfl (one_of HT_.out (by kernel_rfl)) (by decide) (fun K hK => ?_)
               refine goes_ Try.func12 (by kernel_rfl) rfl #[.int .i64 x5_6, .slice A182_0 (rd_L1 t175 x8_3).length c182_0] (by rfl) rfl rfl (by (try simp only [List.map_toArray, List.map_cons, List.map_nil]); first | done | rfl | (simp only [List.length_drop, List.length_take]; rfl)) ?_
               with_reducible refine (tok_Is.calls x5_6 _ _ (rd_L1 t175 x8_3) true _ ?side1 ?side2 A25.out).mono ?_
               (case side1 => repeat (first | exact (by repeat (first | (with_reducible exact HR182_0.out) | (with_reducible refine Kd.C_alloc ?_ _) | (with_reducible refine Kd.C_drewN ?_ _) | (with_reducible refine Kd.C_drew ?_) | exact HR182_0.out)) | (with_reducible refine Kd.C_alloc ?_ _) | (with_reducible refine Kd.C_drewN ?_ _) | (with_reducible refine Kd.C_drew ?_)))
               (case side2 => exact HC182_0.out)
               rintro e w' ⟨rfl, ⟨nd, rfl⟩⟩
               refine ⟨_, rfl, ?_⟩
               refine hK.out _ _ (hHeld) (fun hHeld => ?_)
               clear hK K
               refine norm_ (a' := ?_) ?_ ?_
               rotate_left
               ·show Act.put _ (some 42) _ = _
                simp only [Act.put, sA,sB,sC, i64_w, i32_w]; rfl
               refine pure_ (i := 6) (N := some 43) (v := ?_) (a' := ?_) #[Y,Y,Y,Y,Y,Y,Y,N,N,N,N,N,N,N,N,N,N,N,N,N,N,N,N,N,N,N,N,N,N,N,N,N,N,N,N,N,N,N,N,N] rfl rfl (any_of HT_.out (by kernel_rfl)) (fun _ _ _ h => h) (Or.inl ⟨by rfl, ?_⟩) ?_ ?_; rotate_left
               ·intro w'; go_simp; with_reducible rfl
               rotate_left
               ·simp only [Act.put, sA,sB,sC, i64_w, i32_w]; rfl
               refine pure_ (i := 7) (N := some 44) (v := ?_) (a' := ?_) #[Y,Y,Y,Y,Y,Y,Y,Y,N,N,N,N,N,N,N,N,N,N,N,N,N,N,N,N,N,N,N,N,N,N,N,N,N,N,N,N,N,N,N,N] rfl rfl (any_of HT_.out (by kernel_rfl)) (fun _ _ _ h => h) (Or.inl ⟨by rfl, ?_⟩) ?_ ?_; rotate_left
               ·intro w'; go_simp; with_reducible rfl
               rotate_left
               ·simp only [Act.put, sA,sB,sC, i64_w, i32_w]; rfl
               refine pure_ (i := 8) (N := some 45) (v := ?_) (a' := ?_) #[Y,Y,Y,Y,Y,Y,Y,Y,Y,N,N,N,N,N,N,N,N,N,N,N,N,N,N,N,N,N,N,N,N,N,N,N,N,N,N,N,N,N,N,N] rfl rfl (any_of HT_.out (by kernel_rfl)) (fun _ _ _ h => h) (Or.inl ⟨by rfl, ?_⟩) ?_ ?_; rotate_left
               ·intro w'; go_simp; with_reducible rfl
               rotate_left
               ·simp only [Act.put, sA,sB,sC, i64_w, i32_w]; rfl
               refine pure_ (i := 9) (N := some 46) (v := ?_) (a' := ?_) #[Y,Y,Y,Y,Y,Y,Y,Y,Y,Y,N,N,N,N,N,N,N,N,N,N,N,N,N,N,N,N,N,N,N,N,N,N,N,N,N,N,N,N,N,N] rfl rfl (any_of HT_.out (by kernel_rfl)) (fun _ _ _ h => h) (Or.inl ⟨by rfl, ?_⟩) ?_ ?_; rotate_left
               ·intro w'; go_simp; with_reducible rfl
               rotate_left
               ·simp only [Act.put, sA,sB,sC, i64_w, i32_w]; rfl
               refine pure_ (i := 10) (N := some 47) (v := ?_) (a' := ?_) #[Y,Y,Y,Y,Y,Y,Y,Y,Y,Y,Y,N,N,N,N,N,N,N,N,N,N,N,N,N,N,N,N,N,N,N,N,N,N,N,N,N,N,N,N,N] rfl rfl (any_of HT_.out (by kernel_rfl)) (fun _ _ _ h => h) (Or.inl ⟨by rfl, ?_⟩) ?_ ?_; rotate_left
               ·intro w'; go_simp; with_reducible rfl
               rotate_left
               ·simp only [Act.put, sA,sB,sC, i64_w, i32_w]; rfl
               refine pure_ (i := 11) (N := some 48) (v := ?_) (a' := ?_) #[Y,Y,Y,Y,Y,Y,Y,Y,Y,Y,Y,Y,N,N,N,N,N,N,N,N,N,N,N,N,N,N,N,N,N,N,N,N,N,N,N,N,N,N,N,N] rfl rfl (any_of HT_.out (by kernel_rfl)) (fun _ _ _ h => h) (Or.inl ⟨by rfl, ?_⟩) ?_ ?_; rotate_left
               ·intro w'; go_simp; with_reducible rfl
               rotate_left
               ·simp only [Act.put, sA,sB,sC, i64_w, i32_w]; rfl
               refine pure_ (i := 12) (N := some 49) (v := ?_) (a' := ?_) #[Y,Y,Y,Y,Y,Y,Y,Y,Y,Y,Y,Y,Y,N,N,N,N,N,N,N,N,N,N,N,N,N,N,N,N,N,N,N,N,N,N,N,N,N,N,N] rfl rfl (any_of HT_.out (by kernel_rfl)) (fun _ _ _ h => h) (Or.inl ⟨by rfl, ?_⟩) ?_ ?_; rotate_left
               ·intro w'; go_simp; with_reducible rfl
               rotate_left
               ·simp only [Act.put, sA,sB,sC, i64_w, i32_w]; rfl
               refine pure_ (i := 13) (N := some 50) (v := ?_) (a' := ?_) #[Y,Y,Y,Y,Y,Y,Y,Y,Y,Y,Y,Y,Y,Y,N,N,N,N,N,N,N,N,N,N,N,N,N,N,N,N,N,N,N,N,N,N,N,N,N,N] rfl rfl (any_of HT_.out (by kernel_rfl)) (fun _ _ _ h => h) (Or.inl ⟨by rfl, ?_⟩) ?_ ?_; rotate_left
               ·intro w'; go_simp; with_reducible rfl
               rotate_left
               ·simp only [Act.put, sA,sB,sC, i64_w, i32_w]; rfl
               refine pure_ (i := 14) (N := some 51) (v := ?_) (a' := ?_) #[Y,Y,Y,Y,Y,Y,Y,Y,Y,Y,Y,Y,Y,Y,Y,N,N,N,N,N,N,N,N,N,N,N,N,N,N,N,N,N,N,N,N,N,N,N,N,N] rfl rfl (any_of HT_.out (by kernel_rfl)) (fun _ _ _ h => h) (Or.inl ⟨by rfl, ?_⟩) ?_ ?_; rotate_left
               ·intro w'; go_simp; with_reducible rfl
               rotate_left
               ·simp only [Act.put, sA,sB,sC, i64_w, i32_w]; rfl
               refine pure_ (i := 15) (N := some 52) (v := ?_) (a' := ?_) #[Y,Y,Y,Y,Y,Y,Y,Y,Y,Y,Y,Y,Y,Y,Y,Y,N,N,N,N,N,N,N,N,N,N,N,N,N,N,N,N,N,N,N,N,N,N,N,N] rfl rfl (any_of HT_.out (by kernel_rfl)) (fun _ _ _ h => h) (Or.inl ⟨by rfl, ?_⟩) ?_ ?_; rotate_left
               ·intro w'; go_simp; with_reducible rfl
               rotate_left
               ·simp only [Act.put, sA,sB,sC, i64_w, i32_w]; rfl
               refine pure_ (i := 16) (N := some 53) (v := ?_) (a' := ?_) #[Y,Y,Y,Y,Y,Y,Y,Y,Y,Y,Y,Y,Y,Y,Y,Y,Y,N,N,N,N,N,N,N,N,N,N,N,N,N,N,N,N,N,N,N,N,N,N,N] rfl rfl (any_of HT_.out (by kernel_rfl)) (fun _ _ _ h => h) (Or.inl ⟨by rfl, ?_⟩) ?_ ?_; rotate_left
               ·intro w'; go_simp; with_reducible rfl
               rotate_left
               ·simp only [Act.put, sA,sB,sC, i64_w, i32_w]; rfl
               refine pure_ (i := 17) (N := some 54) (v := undef) (a' := ?_) #[Y,Y,Y,Y,Y,Y,Y,Y,Y,Y,Y,Y,Y,Y,Y,Y,Y,Y,N,N,N,N,N,N,N,N,N,N,N,N,N,N,N,N,N,N,N,N,N,N] rfl rfl (any_of HT_.out (by kernel_rfl)) (fun _ _ _ h => h) (Or.inr ⟨by rfl, rfl⟩) ?_ ?_; rotate_left
               ·simp only [Act.put, sA,sB,sC, i64_w, i32_w]; rfl
               refine pure_ (i := 18) (N := some 55) (v := undef) (a' := ?_) #[Y,Y,Y,Y,Y,Y,Y,Y,Y,Y,Y,Y,Y,Y,Y,Y,Y,Y,Y,N,N,N,N,N,N,N,N,N,N,N,N,N,N,N,N,N,N,N,N,N] rfl rfl (any_of HT_.out (by kernel_rfl)) (fun _ _ _ h => h) (Or.inr ⟨by rfl, rfl⟩) ?_ ?_; rotate_left
               ·simp only [Act.put, sA,sB,sC, i64_w, i32_w]; rfl
               refine pure_ (i := 19) (N := some 56) (v := undef) (a' := ?_) #[Y,Y,Y,Y,Y,Y,Y,Y,Y,Y,Y,Y,Y,Y,Y,Y,Y,Y,Y,Y,N,N,N,N,N,N,N,N,N,N,N,N,N,N,N,N,N,N,N,N] rfl rfl (any_of HT_.out (by kernel_rfl)) (fun _ _ _ h => h) (Or.inr ⟨by rfl, rfl⟩) ?_ ?_; rotate_left
               ·simp only [Act.put, sA,sB,sC, i64_w, i32_w]; rfl
               refine pure_ (i := 20) (N := some 57) (v := undef) (a' := ?_) #[Y,Y,Y,Y,Y,Y,Y,Y,Y,Y,Y,Y,Y,Y,Y,Y,Y,Y,Y,Y,Y,N,N,N,N,N,N,N,N,N,N,N,N,N,N,N,N,N,N,N] rfl rfl (any_of HT_.out (by kernel_rfl)) (fun _ _ _ h => h) (Or.inr ⟨by rfl, rfl⟩) ?_ ?_; rotate_left
               ·simp only [Act.put, sA,sB,sC, i64_w, i32_w]; rfl
               refine pure_ (i := 21) (N := some 58) (v := undef) (a' := ?_) #[Y,Y,Y,Y,Y,Y,Y,Y,Y,Y,Y,Y,Y,Y,Y,Y,Y,Y,Y,Y,Y,Y,N,N,N,N,N,N,N,N,N,N,N,N,N,N,N,N,N,N] rfl rfl (any_of HT_.out (by kernel_rfl)) (fun _ _ _ h => h) (Or.inr ⟨by rfl, rfl⟩) ?_ ?_; rotate_left
               ·simp only [Act.put, sA,sB,sC, i64_w, i32_w]; rfl
               refine pure_ (i := 22) (N := some 59) (v := undef) (a' := ?_) #[Y,Y,Y,Y,Y,Y,Y,Y,Y,Y,Y,Y,Y,Y,Y,Y,Y,Y,Y,Y,Y,Y,Y,N,N,N,N,N,N,N,N,N,N,N,N,N,N,N,N,N] rfl rfl (any_of HT_.out (by kernel_rfl)) (fun _ _ _ h => h) (Or.inr ⟨by rfl, rfl⟩) ?_ ?_; rotate_left
               ·simp only [Act.put, sA,sB,sC, i64_w, i32_w]; rfl
               refine pure_ (i := 23) (N := some 60) (v := undef) (a' := ?_) #[Y,Y,Y,Y,Y,Y,Y,Y,Y,Y,Y,Y,Y,Y,Y,Y,Y,Y,Y,Y,Y,Y,Y,Y,N,N,N,N,N,N,N,N,N,N,N,N,N,N,N,N] rfl rfl (any_of HT_.out (by kernel_rfl)) (fun _ _ _ h => h) (Or.inr ⟨by rfl, rfl⟩) ?_ ?_; rotate_left
               ·simp only [Act.put, sA,sB,sC, i64_w, i32_w]; rfl
               refine pure_ (i := 24) (N := some 61) (v := undef) (a' := ?_) #[Y,Y,Y,Y,Y,Y,Y,Y,Y,Y,Y,Y,Y,Y,Y,Y,Y,Y,Y,Y,Y,Y,Y,Y,Y,N,N,N,N,N,N,N,N,N,N,N,N,N,N,N] rfl rfl (any_of HT_.out (by kernel_rfl)) (fun _ _ _ h => h) (Or.inr ⟨by rfl, rfl⟩) ?_ ?_; rotate_left
               ·simp only [Act.put, sA,sB,sC, i64_w, i32_w]; rfl
               refine pure_ (i := 25) (N := some 62) (v := undef) (a' := ?_) #[Y,Y,Y,Y,Y,Y,Y,Y,Y,Y,Y,Y,Y,Y,Y,Y,Y,Y,Y,Y,Y,Y,Y,Y,Y,Y,N,N,N,N,N,N,N,N,N,N,N,N,N,N] rfl rfl (any_of HT_.out (by kernel_rfl)) (fun _ _ _ h => h) (Or.inr ⟨by rfl, rfl⟩) ?_ ?_; rotate_left
               ·simp only [Act.put, sA,sB,sC, i64_w, i32_w]; rfl
               refine pure_ (i := 26) (N := some 63) (v := undef) (a' := ?_) #[Y,Y,Y,Y,Y,Y,Y,Y,Y,Y,Y,Y,Y,Y,Y,Y,Y,Y,Y,Y,Y,Y,Y,Y,Y,Y,Y,N,N,N,N,N,N,N,N,N,N,N,N,N] rfl rfl (any_of HT_.out (by kernel_rfl)) (fun _ _ _ h => h) (Or.inr ⟨by rfl, rfl⟩) ?_ ?_; rotate_left
               ·simp only [Act.put, sA,sB,sC, i64_w, i32_w]; rfl
               refine pure_ (i := 27) (N := some 64) (v := undef) (a' := ?_) #[Y,Y,Y,Y,Y,Y,Y,Y,Y,Y,Y,Y,Y,Y,Y,Y,Y,Y,Y,Y,Y,Y,Y,Y,Y,Y,Y,Y,N,N,N,N,N,N,N,N,N,N,N,N] rfl rfl (any_of HT_.out (by kernel_rfl)) (fun _ _ _ h => h) (Or.inr ⟨by rfl, rfl⟩) ?_ ?_; rotate_left
               ·simp only [Act.put, sA,sB,sC, i64_w, i32_w]; rfl
               refine pure_ (i := 28) (N := some 65) (v := undef) (a' := ?_) #[Y,Y,Y,Y,Y,Y,Y,Y,Y,Y,Y,Y,Y,Y,Y,Y,Y,Y,Y,Y,Y,Y,Y,Y,Y,Y,Y,Y,Y,N,N,N,N,N,N,N,N,N,N,N] rfl rfl (any_of HT_.out (by kernel_rfl)) (fun _ _ _ h => h) (Or.inr ⟨by rfl, rfl⟩) ?_ ?_; rotate_left
               ·simp only [Act.put, sA,sB,sC, i64_w, i32_w]; rfl
               refine pure_ (i := 29) (N := some 66) (v := undef) (a' := ?_) #[Y,Y,Y,Y,Y,Y,Y,Y,Y,Y,Y,Y,Y,Y,Y,Y,Y,Y,Y,Y,Y,Y,Y,Y,Y,Y,Y,Y,Y,Y,N,N,N,N,N,N,N,N,N,N] rfl rfl (any_of HT_.out (by kernel_rfl)) (fun _ _ _ h => h) (Or.inr ⟨by rfl, rfl⟩) ?_ ?_; rotate_left
               ·simp only [Act.put, sA,sB,sC, i64_w, i32_w]; rfl
               refine pure_ (i := 30) (N := some 67) (v := undef) (a' := ?_) #[Y,Y,Y,Y,Y,Y,Y,Y,Y,Y,Y,Y,Y,Y,Y,Y,Y,Y,Y,Y,Y,Y,Y,Y,Y,Y,Y,Y,Y,Y,Y,N,N,N,N,N,N,N,N,N] rfl rfl (any_of HT_.out (by kernel_rfl)) (fun _ _ _ h => h) (Or.inr ⟨by rfl, rfl⟩) ?_ ?_; rotate_left
               ·simp only [Act.put, sA,sB,sC, i64_w, i32_w]; rfl
               refine pure_ (i := 31) (N := some 68) (v := undef) (a' := ?_) #[Y,Y,Y,Y,Y,Y,Y,Y,Y,Y,Y,Y,Y,Y,Y,Y,Y,Y,Y,Y,Y,Y,Y,Y,Y,Y,Y,Y,Y,Y,Y,Y,N,N,N,N,N,N,N,N] rfl rfl (any_of HT_.out (by kernel_rfl)) (fun _ _ _ h => h) (Or.inr ⟨by rfl, rfl⟩) ?_ ?_; rotate_left
               ·simp only [Act.put, sA,sB,sC, i64_w, i32_w]; rfl
               refine pure_ (i := 32) (N := some 69) (v := undef) (a' := ?_) #[Y,Y,Y,Y,Y,Y,Y,Y,Y,Y,Y,Y,Y,Y,Y,Y,Y,Y,Y,Y,Y,Y,Y,Y,Y,Y,Y,Y,Y,Y,Y,Y,Y,N,N,N,N,N,N,N] rfl rfl (any_of HT_.out (by kernel_rfl)) (fun _ _ _ h => h) (Or.inr ⟨by rfl, rfl⟩) ?_ ?_; rotate_left
               ·simp only [Act.put, sA,sB,sC, i64_w, i32_w]; rfl
               refine pure_ (i := 33) (N := some 70) (v := undef) (a' := ?_) #[Y,Y,Y,Y,Y,Y,Y,Y,Y,Y,Y,Y,Y,Y,Y,Y,Y,Y,Y,Y,Y,Y,Y,Y,Y,Y,Y,Y,Y,Y,Y,Y,Y,Y,N,N,N,N,N,N] rfl rfl (any_of HT_.out (by kernel_rfl)) (fun _ _ _ h => h) (Or.inr ⟨by rfl, rfl⟩) ?_ ?_; rotate_left
               ·simp only [Act.put, sA,sB,sC, i64_w, i32_w]; rfl
               refine pure_ (i := 34) (N := some 71) (v := undef) (a' := ?_) #[Y,Y,Y,Y,Y,Y,Y,Y,Y,Y,Y,Y,Y,Y,Y,Y,Y,Y,Y,Y,Y,Y,Y,Y,Y,Y,Y,Y,Y,Y,Y,Y,Y,Y,Y,N,N,N,N,N] rfl rfl (any_of HT_.out (by kernel_rfl)) (fun _ _ _ h => h) (Or.inr ⟨by rfl, rfl⟩) ?_ ?_; rotate_left
               ·simp only [Act.put, sA,sB,sC, i64_w, i32_w]; rfl
               refine pure_ (i := 35) (N := some 72) (v := undef) (a' := ?_) #[Y,Y,Y,Y,Y,Y,Y,Y,Y,Y,Y,Y,Y,Y,Y,Y,Y,Y,Y,Y,Y,Y,Y,Y,Y,Y,Y,Y,Y,Y,Y,Y,Y,Y,Y,Y,N,N,N,N] rfl rfl (any_of HT_.out (by kernel_rfl)) (fun _ _ _ h => h) (Or.inr ⟨by rfl, rfl⟩) ?_ ?_; rotate_left
               ·simp only [Act.put, sA,sB,sC, i64_w, i32_w]; rfl
               refine pure_ (i := 36) (N := some 73) (v := undef) (a' := ?_) #[Y,Y,Y,Y,Y,Y,Y,Y,Y,Y,Y,Y,Y,Y,Y,Y,Y,Y,Y,Y,Y,Y,Y,Y,Y,Y,Y,Y,Y,Y,Y,Y,Y,Y,Y,Y,Y,N,N,N] rfl rfl (any_of HT_.out (by kernel_rfl)) (fun _ _ _ h => h) (Or.inr ⟨by rfl, rfl⟩) ?_ ?_; rotate_left
               ·simp only [Act.put, sA,sB,sC, i64_w, i32_w]; rfl
               refine pure_ (i := 37) (N := some 74) (v := undef) (a' := ?_) #[Y,Y,Y,Y,Y,Y,Y,Y,Y,Y,Y,Y,Y,Y,Y,Y,Y,Y,Y,Y,Y,Y,Y,Y,Y,Y,Y,Y,Y,Y,Y,Y,Y,Y,Y,Y,Y,Y,N,N] rfl rfl (any_of HT_.out (by kernel_rfl)) (fun _ _ _ h => h) (Or.inr ⟨by rfl, rfl⟩) ?_ ?_; rotate_left
               ·simp only [Act.put, sA,sB,sC, i64_w, i32_w]; rfl
               refine pure_ (i := 38) (N := some 75) (v := ?_) (a' := ?_) #[Y,Y,Y,Y,Y,Y,Y,Y,Y,Y,Y,Y,Y,Y,Y,Y,Y,Y,Y,Y,Y,Y,Y,Y,Y,Y,Y,Y,Y,Y,Y,Y,Y,Y,Y,Y,Y,Y,Y,N] rfl rfl (any_of HT_.out (by kernel_rfl)) (fun _ _ _ h => h) (Or.inl ⟨by rfl, ?_⟩) ?_ ?_; rotate_left
               ·intro w'; go_simp; with_reducible rfl
               rotate_left
               ·simp only [Act.put, sA,sB,sC, i64_w, i32_w]; rfl
               refine pure_ (i := 39) (N := some 76) (v := ?_) (a' := ?_) #[Y,Y,Y,Y,Y,Y,Y,Y,Y,Y,Y,Y,Y,Y,Y,Y,Y,Y,Y,Y,Y,Y,Y,Y,Y,Y,Y,Y,Y,Y,Y,Y,Y,Y,Y,Y,Y,Y,Y,Y] rfl rfl (any_of HT_.out (by kernel_rfl)) (fun _ _ _ h => h) (Or.inl ⟨by rfl, ?_⟩) ?_ ?_; rotate_left
               ·intro w'; go_simp; with_reducible rfl
               rotate_left
               ·simp only [Act.put, sA,sB,sC, i64_w, i32_w]; rfl
               refine done_ (done_of HT_.out (by kernel_rfl)) ?_
               try go_wp2
               go_roundg k3
               case measure => have := HJ6.out; have := HJ10.out; have := HK3.out; omega
               case rel => exact ⟨(wrap64 (x8_3 + 1)), (by first | rfl | (simp; done) | (simp [*]; done)), H', ⟨by have := HJ6.out; have := HJ10.out; have := HK3.out; omega⟩, ⟨by (with_reducible repeat (first | apply Kd.S_alloc | apply Kd.S_drewN | apply Kd.S_drew)); exact HO_6.out⟩, ⟨by repeat (first | (with_reducible first | exact HB.out | apply below_alloc | apply pw_below_drewN | apply below_drew1) | exact HB.out)⟩⟩
             ·replace c27 := Bool.eq_false_iff.mpr c27
              subst c27
              have H1 : (tattinglaw1_TokBack.l0 k3 false x5_6 t175 (wrap64 (x8_3 + 1))) = some r := by rw [if_neg (show ¬ (false = true) by decide)] at H; exact H
              clear H
              have H := H1
              clear H1
              have H' := Aside0.mk H
              clear H
              obtain ⟨Ao38, co38, eo38⟩ := Kd.S_slice HO_6.out
              subst eo38
              try go_wp2
              have n0_ := Aside0.mk (Kd.S_drew HO_6.out)
              have n1_ := Aside0.mk (below_drew1 HB.out)
              clear HO_6
              clear HB
              have HO_6 := n0_
              have HB := n1_
              clear n0_ n1_
              have p182 : 0 ≤ (x8_3 : Int) := of_decide_eq_true (by first | (with_reducible assumption) | assumption)
              have q182 : x8_3 < (t175.length : Int) := of_decide_eq_true (by first | (with_reducible assumption) | assumption)
              try (obtain ⟨Ap182, cp182, ep182⟩ := Kd.S_slice HO_6.out; subst ep182)
              obtain ⟨ad182, A182_0, c182_0, e182, hx182_0, hl182_0, hi182_0⟩ := at_L1 (Kd.S_reads' HO_6.out).2.2 x8_3 p182 q182
              cases e182
              obtain ⟨ce182, hce182, hMe182, hcc182⟩ := Kd.S_get HO_6.out [] x8_3 p182 (by first | exact q182 | exact of_decide_eq_true (by first | (with_reducible assumption) | assumption) | (have e_ := (Kd.S_reads' HO_6.out).1; omega))
              obtain ⟨ve182_0, rfl, ge182_0⟩ := hMe182
              have hv182_0 := hcc182 0 _ rfl
              rw [Nat.add_zero, show ((Kd.slice 5 (Kd.int .u8))).sz = 1 from rfl, Nat.mul_one] at hv182_0
              replace hv182_0 := Option.some.inj (hv182_0.symm.trans hx182_0)
              rw [hv182_0] at ge182_0
              have HL182_0 := Aside0.mk (show Kd.R (Kd.int .u8) 5 _ _ _ _ (rd_L1 t175 x8_3) from ge182_0)
              clear hv182_0 ge182_0
              clear hcc182 hce182
              have HR182_0 := Aside0.mk hi182_0
              have HC182_0 := Aside0.mk hl182_0
              clear hi182_0 hl182_0
              replace p182 := eq_true p182
              replace q182 := eq_true q182
              refine start_ (n := 40) (S := fun w' => w'.cell? (ad182.add (x8_3).toNat) = some (.slice A182_0 (rd_L1 t175 x8_3).length c182_0)) (ds := []) #[N,N,N,N,N,N,N,N,N,N,N,N,N,N,N,N,N,N,N,N,N,N,N,N,N,N,N,N,N,N,N,N,N,N,N,N,N,N,N,N] (by kernel_rfl) rfl rfl (hx182_0) (fun hHeld => ?_); refine with_tabW tattinglaw1_TokBack.tab14 tattinglaw1_TokBack.bits14 (fun HT_ HW_ => ?_)
              generalize wr.drew = w39 at HO_6 HB HL182_0 HR182_0 hx182_0 hHeld ⊢
              refine pure_ (i := 0) (N := some 37) (v := ?_) (a' := ?_) #[Y,N,N,N,N,N,N,N,N,N,N,N,N,N,N,N,N,N,N,N,N,N,N,N,N,N,N,N,N,N,N,N,N,N,N,N,N,N,N,N] rfl rfl (any_of HT_.out (by kernel_rfl)) (fun _ _ _ h => h) (Or.inl ⟨by rfl, ?_⟩) ?_ ?_; rotate_left
              ·intro w'; go_simp; with_reducible rfl
              rotate_left
              ·simp only [Act.put, sA,sB,sC, i64_w, i32_w]; rfl
              refine pure_ (i := 1) (N := some 38) (v := ?_) (a' := ?_) #[Y,Y,N,N,N,N,N,N,N,N,N,N,N,N,N,N,N,N,N,N,N,N,N,N,N,N,N,N,N,N,N,N,N,N,N,N,N,N,N,N] rfl rfl (any_of HT_.out (by kernel_rfl)) (fun _ _ _ h => h) (Or.inl ⟨by rfl, ?_⟩) ?_ ?_; rotate_left
              ·intro w'; go_simp; with_reducible rfl
              rotate_left
              ·simp only [Act.put, sA,sB,sC, i64_w, i32_w]; rfl
              refine pure_ (i := 2) (N := some 39) (v := ?_) (a' := ?_) #[Y,Y,Y,N,N,N,N,N,N,N,N,N,N,N,N,N,N,N,N,N,N,N,N,N,N,N,N,N,N,N,N,N,N,N,N,N,N,N,N,N] rfl rfl (any_of HT_.out (by kernel_rfl)) (fun _ _ _ h => h) (Or.inl ⟨by rfl, ?_⟩) ?_ ?_; rotate_left
              ·intro w'; go_simp; with_reducible rfl
              rotate_left
              ·simp only [Act.put, sA,sB,sC, i64_w, i32_w]; rfl
              refine pure_ (i := 3) (N := some 40) (v := ?_) (a' := ?_) #[Y,Y,Y,Y,N,N,N,N,N,N,N,N,N,N,N,N,N,N,N,N,N,N,N,N,N,N,N,N,N,N,N,N,N,N,N,N,N,N,N,N] rfl rfl (any_of HT_.out (by kernel_rfl)) (fun _ _ _ h => h) (Or.inl ⟨by rfl, ?_⟩) ?_ ?_; rotate_left
              ·intro w'; go_simp; with_reducible rfl
              rotate_left
              ·simp only [Act.put, sA,sB,sC, i64_w, i32_w]; rfl
              refine take_ (i := 4) (N := some 41) (v := ?_) (a' := ?_) #[Y,Y,Y,Y,Y,N,N,N,N,N,N,N,N,N,N,N,N,N,N,N,N,N,N,N,N,N,N,N,N,N,N,N,N,N,N,N,N,N,N,N] rfl rfl (take_ofW HT_.out HW_.out (by kernel_rfl)) (fun _ _ _ h => h) (Or.inl ⟨by rfl, ?_⟩) hHeld ?_ ?_; rotate_left
              ·intro w' s0
               go_simp; with_reducible rfl
              rotate_left
              ·simp only [Act.put, sA,sB,sC, i64_w, i32_w]; rfl
              refine one_ (i := 5) (N := some 42) #[Y,Y,Y,Y,Y,Y,N,N,N,N,N,N,N,N,N,N,N,N,N,N,N,N,N,N,N,N,N,N,N,N,N,N,N,N,N,N,N,N,N,N] rfl rfl (one_of HT_.out (by kernel_rfl)) (by decide) (fun K hK => ?_)
              refine goes_ Try.func12 (by kernel_rfl) rfl #[.int .i64 x5_6, .slice A182_0 (rd_L1 t175 x8_3).length c182_0] (by rfl) rfl rfl (by (try simp only [List.map_toArray, List.map_cons, List.map_nil]); first | done | rfl | (simp only [List.length_drop, List.length_take]; rfl)) ?_
              with_reducible refine (tok_Is.calls x5_6 _ _ (rd_L1 t175 x8_3) true _ ?side1 ?side2 A25.out).mono ?_
              (case side1 => repeat (first | exact (by repeat (first | (with_reducible exact HR182_0.out) | (with_reducible refine Kd.C_alloc ?_ _) | (with_reducible refine Kd.C_drewN ?_ _) | (with_reducible refine Kd.C_drew ?_) | exact HR182_0.out)) | (with_reducible refine Kd.C_alloc ?_ _) | (with_reducible refine Kd.C_drewN ?_ _) | (with_reducible refine Kd.C_drew ?_)))
              (case side2 => exact HC182_0.out)
              rintro e w' ⟨rfl, ⟨nd, rfl⟩⟩
              refine ⟨_, rfl, ?_⟩
              refine hK.out _ _ (hHeld) (fun hHeld => ?_)
              clear hK K
              refine norm_ (a' := ?_) ?_ ?_
              rotate_left
              ·show Act.put _ (some 42) _ = _
               simp only [Act.put, sA,sB,sC, i64_w, i32_w]; rfl
              refine pure_ (i := 6) (N := some 43) (v := ?_) (a' := ?_) #[Y,Y,Y,Y,Y,Y,Y,N,N,N,N,N,N,N,N,N,N,N,N,N,N,N,N,N,N,N,N,N,N,N,N,N,N,N,N,N,N,N,N,N] rfl rfl (any_of HT_.out (by kernel_rfl)) (fun _ _ _ h => h) (Or.inl ⟨by rfl, ?_⟩) ?_ ?_; rotate_left
              ·intro w'; go_simp; with_reducible rfl
              rotate_left
              ·simp only [Act.put, sA,sB,sC, i64_w, i32_w]; rfl
              refine pure_ (i := 7) (N := some 44) (v := ?_) (a' := ?_) #[Y,Y,Y,Y,Y,Y,Y,Y,N,N,N,N,N,N,N,N,N,N,N,N,N,N,N,N,N,N,N,N,N,N,N,N,N,N,N,N,N,N,N,N] rfl rfl (any_of HT_.out (by kernel_rfl)) (fun _ _ _ h => h) (Or.inl ⟨by rfl, ?_⟩) ?_ ?_; rotate_left
              ·intro w'; go_simp; with_reducible rfl
              rotate_left
              ·simp only [Act.put, sA,sB,sC, i64_w, i32_w]; rfl
              refine pure_ (i := 8) (N := some 45) (v := ?_) (a' := ?_) #[Y,Y,Y,Y,Y,Y,Y,Y,Y,N,N,N,N,N,N,N,N,N,N,N,N,N,N,N,N,N,N,N,N,N,N,N,N,N,N,N,N,N,N,N] rfl rfl (any_of HT_.out (by kernel_rfl)) (fun _ _ _ h => h) (Or.inl ⟨by rfl, ?_⟩) ?_ ?_; rotate_left
              ·intro w'; go_simp; with_reducible rfl
              rotate_left
              ·simp only [Act.put, sA,sB,sC, i64_w, i32_w]; rfl
              refine pure_ (i := 9) (N := some 46) (v := ?_) (a' := ?_) #[Y,Y,Y,Y,Y,Y,Y,Y,Y,Y,N,N,N,N,N,N,N,N,N,N,N,N,N,N,N,N,N,N,N,N,N,N,N,N,N,N,N,N,N,N] rfl rfl (any_of HT_.out (by kernel_rfl)) (fun _ _ _ h => h) (Or.inl ⟨by rfl, ?_⟩) ?_ ?_; rotate_left
              ·intro w'; go_simp; with_reducible rfl
              rotate_left
              ·simp only [Act.put, sA,sB,sC, i64_w, i32_w]; rfl
              refine pure_ (i := 10) (N := some 47) (v := undef) (a' := ?_) #[Y,Y,Y,Y,Y,Y,Y,Y,Y,Y,Y,N,N,N,N,N,N,N,N,N,N,N,N,N,N,N,N,N,N,N,N,N,N,N,N,N,N,N,N,N] rfl rfl (any_of HT_.out (by kernel_rfl)) (fun _ _ _ h => h) (Or.inr ⟨by rfl, rfl⟩) ?_ ?_; rotate_left
              ·simp only [Act.put, sA,sB,sC, i64_w, i32_w]; rfl
              refine pure_ (i := 11) (N := some 48) (v := undef) (a' := ?_) #[Y,Y,Y,Y,Y,Y,Y,Y,Y,Y,Y,Y,N,N,N,N,N,N,N,N,N,N,N,N,N,N,N,N,N,N,N,N,N,N,N,N,N,N,N,N] rfl rfl (any_of HT_.out (by kernel_rfl)) (fun _ _ _ h => h) (Or.inr ⟨by rfl, rfl⟩) ?_ ?_; rotate_left
              ·simp only [Act.put, sA,sB,sC, i64_w, i32_w]; rfl
              refine pure_ (i := 12) (N := some 49) (v := undef) (a' := ?_) #[Y,Y,Y,Y,Y,Y,Y,Y,Y,Y,Y,Y,Y,N,N,N,N,N,N,N,N,N,N,N,N,N,N,N,N,N,N,N,N,N,N,N,N,N,N,N] rfl rfl (any_of HT_.out (by kernel_rfl)) (fun _ _ _ h => h) (Or.inr ⟨by rfl, rfl⟩) ?_ ?_; rotate_left
              ·simp only [Act.put, sA,sB,sC, i64_w, i32_w]; rfl
              refine pure_ (i := 13) (N := some 50) (v := undef) (a' := ?_) #[Y,Y,Y,Y,Y,Y,Y,Y,Y,Y,Y,Y,Y,Y,N,N,N,N,N,N,N,N,N,N,N,N,N,N,N,N,N,N,N,N,N,N,N,N,N,N] rfl rfl (any_of HT_.out (by kernel_rfl)) (fun _ _ _ h => h) (Or.inr ⟨by rfl, rfl⟩) ?_ ?_; rotate_left
              ·simp only [Act.put, sA,sB,sC, i64_w, i32_w]; rfl
              refine pure_ (i := 14) (N := some 51) (v := undef) (a' := ?_) #[Y,Y,Y,Y,Y,Y,Y,Y,Y,Y,Y,Y,Y,Y,Y,N,N,N,N,N,N,N,N,N,N,N,N,N,N,N,N,N,N,N,N,N,N,N,N,N] rfl rfl (any_of HT_.out (by kernel_rfl)) (fun _ _ _ h => h) (Or.inr ⟨by rfl, rfl⟩) ?_ ?_; rotate_left
              ·simp only [Act.put, sA,sB,sC, i64_w, i32_w]; rfl
              refine pure_ (i := 15) (N := some 52) (v := ?_) (a' := ?_) #[Y,Y,Y,Y,Y,Y,Y,Y,Y,Y,Y,Y,Y,Y,Y,Y,N,N,N,N,N,N,N,N,N,N,N,N,N,N,N,N,N,N,N,N,N,N,N,N] rfl rfl (any_of HT_.out (by kernel_rfl)) (fun _ _ _ h => h) (Or.inl ⟨by rfl, ?_⟩) ?_ ?_; rotate_left
              ·intro w'; go_simp; with_reducible rfl
              rotate_left
              ·simp only [Act.put, sA,sB,sC, i64_w, i32_w]; rfl
              refine pure_ (i := 16) (N := some 53) (v := ?_) (a' := ?_) #[Y,Y,Y,Y,Y,Y,Y,Y,Y,Y,Y,Y,Y,Y,Y,Y,Y,N,N,N,N,N,N,N,N,N,N,N,N,N,N,N,N,N,N,N,N,N,N,N] rfl rfl (any_of HT_.out (by kernel_rfl)) (fun _ _ _ h => h) (Or.inl ⟨by rfl, ?_⟩) ?_ ?_; rotate_left
              ·intro w'; go_simp; with_reducible rfl
              rotate_left
              ·simp only [Act.put, sA,sB,sC, i64_w, i32_w]; rfl
              refine pure_ (i := 17) (N := some 54) (v := undef) (a' := ?_) #[Y,Y,Y,Y,Y,Y,Y,Y,Y,Y,Y,Y,Y,Y,Y,Y,Y,Y,N,N,N,N,N,N,N,N,N,N,N,N,N,N,N,N,N,N,N,N,N,N] rfl rfl (any_of HT_.out (by kernel_rfl)) (fun _ _ _ h => h) (Or.inr ⟨by rfl, rfl⟩) ?_ ?_; rotate_left
              ·simp only [Act.put, sA,sB,sC, i64_w, i32_w]; rfl
              refine pure_ (i := 18) (N := some 55) (v := undef) (a' := ?_) #[Y,Y,Y,Y,Y,Y,Y,Y,Y,Y,Y,Y,Y,Y,Y,Y,Y,Y,Y,N,N,N,N,N,N,N,N,N,N,N,N,N,N,N,N,N,N,N,N,N] rfl rfl (any_of HT_.out (by kernel_rfl)) (fun _ _ _ h => h) (Or.inr ⟨by rfl, rfl⟩) ?_ ?_; rotate_left
              ·simp only [Act.put, sA,sB,sC, i64_w, i32_w]; rfl
              refine pure_ (i := 19) (N := some 56) (v := undef) (a' := ?_) #[Y,Y,Y,Y,Y,Y,Y,Y,Y,Y,Y,Y,Y,Y,Y,Y,Y,Y,Y,Y,N,N,N,N,N,N,N,N,N,N,N,N,N,N,N,N,N,N,N,N] rfl rfl (any_of HT_.out (by kernel_rfl)) (fun _ _ _ h => h) (Or.inr ⟨by rfl, rfl⟩) ?_ ?_; rotate_left
              ·simp only [Act.put, sA,sB,sC, i64_w, i32_w]; rfl
              refine pure_ (i := 20) (N := some 57) (v := undef) (a' := ?_) #[Y,Y,Y,Y,Y,Y,Y,Y,Y,Y,Y,Y,Y,Y,Y,Y,Y,Y,Y,Y,Y,N,N,N,N,N,N,N,N,N,N,N,N,N,N,N,N,N,N,N] rfl rfl (any_of HT_.out (by kernel_rfl)) (fun _ _ _ h => h) (Or.inr ⟨by rfl, rfl⟩) ?_ ?_; rotate_left
              ·simp only [Act.put, sA,sB,sC, i64_w, i32_w]; rfl
              refine pure_ (i := 21) (N := some 58) (v := undef) (a' := ?_) #[Y,Y,Y,Y,Y,Y,Y,Y,Y,Y,Y,Y,Y,Y,Y,Y,Y,Y,Y,Y,Y,Y,N,N,N,N,N,N,N,N,N,N,N,N,N,N,N,N,N,N] rfl rfl (any_of HT_.out (by kernel_rfl)) (fun _ _ _ h => h) (Or.inr ⟨by rfl, rfl⟩) ?_ ?_; rotate_left
              ·simp only [Act.put, sA,sB,sC, i64_w, i32_w]; rfl
              refine pure_ (i := 22) (N := some 59) (v := undef) (a' := ?_) #[Y,Y,Y,Y,Y,Y,Y,Y,Y,Y,Y,Y,Y,Y,Y,Y,Y,Y,Y,Y,Y,Y,Y,N,N,N,N,N,N,N,N,N,N,N,N,N,N,N,N,N] rfl rfl (any_of HT_.out (by kernel_rfl)) (fun _ _ _ h => h) (Or.inr ⟨by rfl, rfl⟩) ?_ ?_; rotate_left
              ·simp only [Act.put, sA,sB,sC, i64_w, i32_w]; rfl
              refine pure_ (i := 23) (N := some 60) (v := undef) (a' := ?_) #[Y,Y,Y,Y,Y,Y,Y,Y,Y,Y,Y,Y,Y,Y,Y,Y,Y,Y,Y,Y,Y,Y,Y,Y,N,N,N,N,N,N,N,N,N,N,N,N,N,N,N,N] rfl rfl (any_of HT_.out (by kernel_rfl)) (fun _ _ _ h => h) (Or.inr ⟨by rfl, rfl⟩) ?_ ?_; rotate_left
              ·simp only [Act.put, sA,sB,sC, i64_w, i32_w]; rfl
              refine pure_ (i := 24) (N := some 61) (v := undef) (a' := ?_) #[Y,Y,Y,Y,Y,Y,Y,Y,Y,Y,Y,Y,Y,Y,Y,Y,Y,Y,Y,Y,Y,Y,Y,Y,Y,N,N,N,N,N,N,N,N,N,N,N,N,N,N,N] rfl rfl (any_of HT_.out (by kernel_rfl)) (fun _ _ _ h => h) (Or.inr ⟨by rfl, rfl⟩) ?_ ?_; rotate_left
              ·simp only [Act.put, sA,sB,sC, i64_w, i32_w]; rfl
              refine pure_ (i := 25) (N := some 62) (v := undef) (a' := ?_) #[Y,Y,Y,Y,Y,Y,Y,Y,Y,Y,Y,Y,Y,Y,Y,Y,Y,Y,Y,Y,Y,Y,Y,Y,Y,Y,N,N,N,N,N,N,N,N,N,N,N,N,N,N] rfl rfl (any_of HT_.out (by kernel_rfl)) (fun _ _ _ h => h) (Or.inr ⟨by rfl, rfl⟩) ?_ ?_; rotate_left
              ·simp only [Act.put, sA,sB,sC, i64_w, i32_w]; rfl
              refine pure_ (i := 26) (N := some 63) (v := undef) (a' := ?_) #[Y,Y,Y,Y,Y,Y,Y,Y,Y,Y,Y,Y,Y,Y,Y,Y,Y,Y,Y,Y,Y,Y,Y,Y,Y,Y,Y,N,N,N,N,N,N,N,N,N,N,N,N,N] rfl rfl (any_of HT_.out (by kernel_rfl)) (fun _ _ _ h => h) (Or.inr ⟨by rfl, rfl⟩) ?_ ?_; rotate_left
              ·simp only [Act.put, sA,sB,sC, i64_w, i32_w]; rfl
              refine pure_ (i := 27) (N := some 64) (v := undef) (a' := ?_) #[Y,Y,Y,Y,Y,Y,Y,Y,Y,Y,Y,Y,Y,Y,Y,Y,Y,Y,Y,Y,Y,Y,Y,Y,Y,Y,Y,Y,N,N,N,N,N,N,N,N,N,N,N,N] rfl rfl (any_of HT_.out (by kernel_rfl)) (fun _ _ _ h => h) (Or.inr ⟨by rfl, rfl⟩) ?_ ?_; rotate_left
              ·simp only [Act.put, sA,sB,sC, i64_w, i32_w]; rfl
              refine pure_ (i := 28) (N := some 65) (v := undef) (a' := ?_) #[Y,Y,Y,Y,Y,Y,Y,Y,Y,Y,Y,Y,Y,Y,Y,Y,Y,Y,Y,Y,Y,Y,Y,Y,Y,Y,Y,Y,Y,N,N,N,N,N,N,N,N,N,N,N] rfl rfl (any_of HT_.out (by kernel_rfl)) (fun _ _ _ h => h) (Or.inr ⟨by rfl, rfl⟩) ?_ ?_; rotate_left
              ·simp only [Act.put, sA,sB,sC, i64_w, i32_w]; rfl
              refine pure_ (i := 29) (N := some 66) (v := undef) (a' := ?_) #[Y,Y,Y,Y,Y,Y,Y,Y,Y,Y,Y,Y,Y,Y,Y,Y,Y,Y,Y,Y,Y,Y,Y,Y,Y,Y,Y,Y,Y,Y,N,N,N,N,N,N,N,N,N,N] rfl rfl (any_of HT_.out (by kernel_rfl)) (fun _ _ _ h => h) (Or.inr ⟨by rfl, rfl⟩) ?_ ?_; rotate_left
              ·simp only [Act.put, sA,sB,sC, i64_w, i32_w]; rfl
              refine pure_ (i := 30) (N := some 67) (v := undef) (a' := ?_) #[Y,Y,Y,Y,Y,Y,Y,Y,Y,Y,Y,Y,Y,Y,Y,Y,Y,Y,Y,Y,Y,Y,Y,Y,Y,Y,Y,Y,Y,Y,Y,N,N,N,N,N,N,N,N,N] rfl rfl (any_of HT_.out (by kernel_rfl)) (fun _ _ _ h => h) (Or.inr ⟨by rfl, rfl⟩) ?_ ?_; rotate_left
              ·simp only [Act.put, sA,sB,sC, i64_w, i32_w]; rfl
              refine pure_ (i := 31) (N := some 68) (v := undef) (a' := ?_) #[Y,Y,Y,Y,Y,Y,Y,Y,Y,Y,Y,Y,Y,Y,Y,Y,Y,Y,Y,Y,Y,Y,Y,Y,Y,Y,Y,Y,Y,Y,Y,Y,N,N,N,N,N,N,N,N] rfl rfl (any_of HT_.out (by kernel_rfl)) (fun _ _ _ h => h) (Or.inr ⟨by rfl, rfl⟩) ?_ ?_; rotate_left
              ·simp only [Act.put, sA,sB,sC, i64_w, i32_w]; rfl
              refine pure_ (i := 32) (N := some 69) (v := undef) (a' := ?_) #[Y,Y,Y,Y,Y,Y,Y,Y,Y,Y,Y,Y,Y,Y,Y,Y,Y,Y,Y,Y,Y,Y,Y,Y,Y,Y,Y,Y,Y,Y,Y,Y,Y,N,N,N,N,N,N,N] rfl rfl (any_of HT_.out (by kernel_rfl)) (fun _ _ _ h => h) (Or.inr ⟨by rfl, rfl⟩) ?_ ?_; rotate_left
              ·simp only [Act.put, sA,sB,sC, i64_w, i32_w]; rfl
              refine pure_ (i := 33) (N := some 70) (v := undef) (a' := ?_) #[Y,Y,Y,Y,Y,Y,Y,Y,Y,Y,Y,Y,Y,Y,Y,Y,Y,Y,Y,Y,Y,Y,Y,Y,Y,Y,Y,Y,Y,Y,Y,Y,Y,Y,N,N,N,N,N,N] rfl rfl (any_of HT_.out (by kernel_rfl)) (fun _ _ _ h => h) (Or.inr ⟨by rfl, rfl⟩) ?_ ?_; rotate_left
              ·simp only [Act.put, sA,sB,sC, i64_w, i32_w]; rfl
              refine pure_ (i := 34) (N := some 71) (v := undef) (a' := ?_) #[Y,Y,Y,Y,Y,Y,Y,Y,Y,Y,Y,Y,Y,Y,Y,Y,Y,Y,Y,Y,Y,Y,Y,Y,Y,Y,Y,Y,Y,Y,Y,Y,Y,Y,Y,N,N,N,N,N] rfl rfl (any_of HT_.out (by kernel_rfl)) (fun _ _ _ h => h) (Or.inr ⟨by rfl, rfl⟩) ?_ ?_; rotate_left
              ·simp only [Act.put, sA,sB,sC, i64_w, i32_w]; rfl
              refine pure_ (i := 35) (N := some 72) (v := undef) (a' := ?_) #[Y,Y,Y,Y,Y,Y,Y,Y,Y,Y,Y,Y,Y,Y,Y,Y,Y,Y,Y,Y,Y,Y,Y,Y,Y,Y,Y,Y,Y,Y,Y,Y,Y,Y,Y,Y,N,N,N,N] rfl rfl (any_of HT_.out (by kernel_rfl)) (fun _ _ _ h => h) (Or.inr ⟨by rfl, rfl⟩) ?_ ?_; rotate_left
              ·simp only [Act.put, sA,sB,sC, i64_w, i32_w]; rfl
              refine pure_ (i := 36) (N := some 73) (v := undef) (a' := ?_) #[Y,Y,Y,Y,Y,Y,Y,Y,Y,Y,Y,Y,Y,Y,Y,Y,Y,Y,Y,Y,Y,Y,Y,Y,Y,Y,Y,Y,Y,Y,Y,Y,Y,Y,Y,Y,Y,N,N,N] rfl rfl (any_of HT_.out (by kernel_rfl)) (fun _ _ _ h => h) (Or.inr ⟨by rfl, rfl⟩) ?_ ?_; rotate_left
              ·simp only [Act.put, sA,sB,sC, i64_w, i32_w]; rfl
              refine pure_ (i := 37) (N := some 74) (v := undef) (a' := ?_) #[Y,Y,Y,Y,Y,Y,Y,Y,Y,Y,Y,Y,Y,Y,Y,Y,Y,Y,Y,Y,Y,Y,Y,Y,Y,Y,Y,Y,Y,Y,Y,Y,Y,Y,Y,Y,Y,Y,N,N] rfl rfl (any_of HT_.out (by kernel_rfl)) (fun _ _ _ h => h) (Or.inr ⟨by rfl, rfl⟩) ?_ ?_; rotate_left
              ·simp only [Act.put, sA,sB,sC, i64_w, i32_w]; rfl
              refine pure_ (i := 38) (N := some 75) (v := ?_) (a' := ?_) #[Y,Y,Y,Y,Y,Y,Y,Y,Y,Y,Y,Y,Y,Y,Y,Y,Y,Y,Y,Y,Y,Y,Y,Y,Y,Y,Y,Y,Y,Y,Y,Y,Y,Y,Y,Y,Y,Y,Y,N] rfl rfl (any_of HT_.out (by kernel_rfl)) (fun _ _ _ h => h) (Or.inl ⟨by rfl, ?_⟩) ?_ ?_; rotate_left
              ·intro w'; go_simp; with_reducible rfl
              rotate_left
              ·simp only [Act.put, sA,sB,sC, i64_w, i32_w]; rfl
              refine pure_ (i := 39) (N := some 76) (v := ?_) (a' := ?_) #[Y,Y,Y,Y,Y,Y,Y,Y,Y,Y,Y,Y,Y,Y,Y,Y,Y,Y,Y,Y,Y,Y,Y,Y,Y,Y,Y,Y,Y,Y,Y,Y,Y,Y,Y,Y,Y,Y,Y,Y] rfl rfl (any_of HT_.out (by kernel_rfl)) (fun _ _ _ h => h) (Or.inl ⟨by rfl, ?_⟩) ?_ ?_; rotate_left
              ·intro w'; go_simp; with_reducible rfl
              rotate_left
              ·simp only [Act.put, sA,sB,sC, i64_w, i32_w]; rfl
              refine done_ (done_of HT_.out (by kernel_rfl)) ?_
              try go_wp2
              go_roundg k3
              case measure => have := HJ6.out; have := HJ10.out; have := HK3.out; omega
              case rel => exact ⟨(wrap64 (x8_3 + 1)), (by first | rfl | (simp; done) | (simp [*]; done)), H', ⟨by have := HJ6.out; have := HJ10.out; have := HK3.out; omega⟩, ⟨by (with_reducible repeat (first | apply Kd.S_alloc | apply Kd.S_drewN | apply Kd.S_drew)); exact HO_6.out⟩, ⟨by repeat (first | (with_reducible first | exact HB.out | apply below_alloc | apply pw_below_drewN | apply below_drew1) | exact HB.out)⟩⟩
            ·replace c26 := Bool.eq_false_iff.mpr c26
             subst c26
             have H1 : (some false) = some r := by rw [if_neg (show ¬ (false = true) by decide)] at H; exact H
             clear H
             have H := H1
             clear H1
             exact absurd (Option.some.inj H) (by rw [hr_]; decide)
           ·rw [if_neg c24] at H
            exact absurd H (by simp)
          ·rw [if_neg c23] at H
           have c23b0 : decide (x8_3 < (t175.length : Int)) = false := decide_eq_false c23
           clear c23
           obtain rfl := Option.some.inj H
           obtain ⟨Ao40, co40, eo40⟩ := Kd.S_slice HO_6.out
           subst eo40
           go_wp2
           go_ret
           exact ⟨by first | rfl | (simp [errW_none, errW_some] <;> rfl) | (simp [*, errW_none, errW_some] <;> rfl), by repeat (first | (with_reducible first | exact HB.out | apply below_alloc | apply pw_below_drewN | apply below_drew1) | exact HB.out)⟩
 ·replace c4 := Bool.eq_false_iff.mpr c4
  subst c4
  have H1 : (some false) = some r := by rw [if_neg (show ¬ (false = true) by decide)] at H; exact H
  clear H
  have H := H1
  clear H1
  exact absurd (Option.some.inj H) (by rw [hr_]; decide)

/-- THE ONE PURE STATEMENT of tattinglaw1_TokBack: yours. -/
def tattinglaw1_TokBack.Pure : Prop := ∀ (a0 : Bool) (l1 : List Int), l1.length ≤ maxLen → l1.length * 1 ≤ 140737488351232 → (∀ x ∈ l1, (Lit.int .u8 x).wf = true) → ∃ k, tattinglaw1_TokBack.f k a0 l1 = some true
theorem tattinglaw1_TokBack.walk (P : tattinglaw1_TokBack.Pure) (a0 : Bool) (a1 : Option Addr) (len1 cap1 : Nat) (z1 : List Int) (w : World) (w1 : (a1 = none ∧ len1 = 0 ∧ cap1 = 0 ∧ z1 = []) ∨ ∃ x, a1 = some x ∧ len1 ≤ cap1 ∧ cap1 ≤ maxLen ∧ z1.length = cap1 ∧ (∀ i, i < z1.length → w.cell? (x.add i) = some (.int .u8 (z1.getD i 0))) ∧ ∀ n ∈ z1, (Lit.int .u8 n).wf = true) (y1 : len1 * 1 ≤ 140737488351232) :
  Calls Try.prog 3 #[.bool a0, .slice a1 len1 cap1] w fun e w' => e = .returned (.bool true) ∧ Below w.heap.size w w' := by
 obtain ⟨l1, rfl, hr1, hm1, hw1, hc1⟩ := ReadsInt.ofRowC w1
 obtain ⟨k, h⟩ := P a0 l1 hm1 y1 hw1
 refine (tattinglaw1_TokBack.calls k a0 _ _ l1 true w (Kd.C_of_reads (d := (0 : Int)) (h1 := fun _ => rfl) hr1) hc1 h rfl).mono ?_
 rintro e w' ⟨rfl, hd⟩
 exact ⟨rfl, hd⟩

end Go.Proofs.Ytfmkiankjibkfaa.PTokBack
