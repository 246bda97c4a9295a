/- What the given program's functions come to, each a Lean function and the walk that shows it: no condition beside those that each theorem names. -/
import Derived.Test.YtfmkiankjibkfaaPTokNamesx0
import Derived.Test.YtfmkiankjibkfaaPTokNamesx1
namespace Go.Proofs.Ytfmkiankjibkfaa.PTokNames
open Go.RowKit Go.Proofs.YtfmkiankjibkfaaW.PrintWords Go.Proofs.YtfmkiankjibkfaaW.PrintLast Go.Proofs.YtfmkiankjibkfaaW.PrintMore
attribute [local go_sem] max2_int min2_int max_two min_two max_three min_three max_four min_four   -- for this text's walks alone
set_option linter.unusedVariables false
set_option linter.unusedSimpArgs false

/-! ### tattinglaw1_TokNames: function 6 -/
mutual
def tattinglaw1_TokNames.j0 : Nat → Int → ByteArray → List Int → Bool → Option (Bool)
 | 0, _, _, _, _ => none
 | k + 1, x0, x1, x2, x29 => if x29 = true then (some true) else ((tok_Mode.f x1).bind fun bt175 => ((tattingref1_Mode.f x1).bind fun bt177 => ((tok_Name.f x0).bind fun t179 => ((tok_Mode.f t179).bind fun bt180 => (if bt175.1 = bt177.1 then (if (bt175.2 != bt177.2) = true then (tattinglaw1_TokNames.j1 k x2 true) else ((tok_Name.f x0).bind fun t182 => ((tattingref1_Name.f x0).bind fun t183 => (if t182.toList = t183.toList then (if x0 = 0 then (if (bt180.2 != true) = true then (tattinglaw1_TokNames.j1 k x2 true) else (if bt180.2 = true then (tattinglaw1_TokNames.j1 k x2 (bt180.1 != x0)) else (tattinglaw1_TokNames.j1 k x2 false))) else (if (bt180.2 != (x0 == 1)) = true then (tattinglaw1_TokNames.j1 k x2 true) else (if bt180.2 = true then (tattinglaw1_TokNames.j1 k x2 (bt180.1 != x0)) else (tattinglaw1_TokNames.j1 k x2 false)))) else (tattinglaw1_TokNames.j1 k x2 true))))) else (tattinglaw1_TokNames.j1 k x2 true))))))
def tattinglaw1_TokNames.j1 : Nat → List Int → Bool → Option (Bool)
 | 0, _, _ => none
 | k + 1, x2, x78 => if x78 = true then (some false) else ((tok_Cut.f k 1 x2).bind fun bt184 => (tattinglaw1_TokNames.l0 k x2 (strOfNums x2) bt184.1 0))
def tattinglaw1_TokNames.l0 : Nat → List Int → ByteArray → List (List Int) → Int → Option (Bool)
 | 0, _, _, _, _ => none
 | k + 1, x2, x13, x14, x16 => if x16 < (x14.length : Int) then (tattinglaw1_TokNames.l1 k x2 x13 x14 x16 0) else ((tok_Cut.f k 1 x2).bind fun bt188 => (if (strOfNums x2).toList = x13.toList then ((tok_Join.f k bt188.1).bind fun t192 => (some ((strOfNums t192).toList == x13.toList))) else (some false)))
def tattinglaw1_TokNames.l1 : Nat → List Int → ByteArray → List (List Int) → Int → Int → Option (Bool)
 | 0, _, _, _, _, _ => none
 | k + 1, x2, x13, x14, x16, x17 => if 0 ≤ x16 then (if x16 < (x14.length : Int) then (if x17 < ((rd_L1 x14 x16).length : Int) then (if 0 ≤ x17 then (tattinglaw1_TokNames.l1 k x2 x13 (x14.set (x16 : Int).toNat ((rd_L1 x14 x16).set (x17 : Int).toNat 51)) x16 (wrap64 (x17 + 1))) else (none)) else (tattinglaw1_TokNames.l0 k x2 x13 x14 (wrap64 (x16 + 1)))) else (none)) else (none)
end
def tattinglaw1_TokNames.f (k : Nat) (a0 : Int) (a1 : ByteArray) (l2 : List Int) : Option (Bool) := (tattinglaw1_awake.f k).bind fun t174 => (if t174 = true then (if (a1.size : Int) > 60 then (tattinglaw1_TokNames.j0 k a0 a1 l2 true) else (tattinglaw1_TokNames.j0 k a0 a1 l2 (decide ((l2.length : Int) > 100)))) else (some false))
theorem tattinglaw1_TokNames.mono_l : ∀ k, (∀ y0 y1 y2 y3, LeO (tattinglaw1_TokNames.j0 k y0 y1 y2 y3) (tattinglaw1_TokNames.j0 (k + 1) y0 y1 y2 y3)) ∧ (∀ y0 y1, LeO (tattinglaw1_TokNames.j1 k y0 y1) (tattinglaw1_TokNames.j1 (k + 1) y0 y1)) ∧ (∀ y0 y1 y2 y3, LeO (tattinglaw1_TokNames.l0 k y0 y1 y2 y3) (tattinglaw1_TokNames.l0 (k + 1) y0 y1 y2 y3)) ∧ (∀ y0 y1 y2 y3 y4, LeO (tattinglaw1_TokNames.l1 k y0 y1 y2 y3 y4) (tattinglaw1_TokNames.l1 (k + 1) y0 y1 y2 y3 y4))
 | 0 => ⟨fun _ _ _ _ r h => by simp [tattinglaw1_TokNames.j0] at h, fun _ _ r h => by simp [tattinglaw1_TokNames.j1] at h, fun _ _ _ _ r h => by simp [tattinglaw1_TokNames.l0] at h, fun _ _ _ _ _ r h => by simp [tattinglaw1_TokNames.l1] at h⟩
 | k + 1 => by
  obtain ⟨ih0, ih1, ih2, ih3⟩ := tattinglaw1_TokNames.mono_l k
  refine ⟨?_, ?_, ?_, ?_⟩
  ·intro y0 y1 y2 y3
   unfold tattinglaw1_TokNames.j0
   repeat' first
   | (with_reducible exact ih0 _ _ _ _)
   | (with_reducible exact ih1 _ _)
   | (with_reducible exact ih2 _ _ _ _)
   | (with_reducible exact ih3 _ _ _ _ _)
   | (with_reducible exact tattinglaw1_awake.mono _)
   | (with_reducible exact tok_Cut.mono _ _ _)
   | (with_reducible exact tok_Join.mono _ _)
   | (with_reducible exact LeO.refl _)
   | (with_reducible exact LeO.none _)
   | (with_reducible refine LeO.ite ?_ ?_)
   | (with_reducible refine LeO.bind ?_ (fun _ => ?_))
   | exact ih0 _ _ _ _
   | exact ih1 _ _
   | exact ih2 _ _ _ _
   | exact ih3 _ _ _ _ _
   | exact tattinglaw1_awake.mono _
   | exact tok_Cut.mono _ _ _
   | exact tok_Join.mono _ _
   | exact LeO.none _
   | refine LeO.ite ?_ ?_
   | refine LeO.bind ?_ (fun _ => ?_)
  ·intro y0 y1
   unfold tattinglaw1_TokNames.j1
   repeat' first
   | (with_reducible exact ih0 _ _ _ _)
   | (with_reducible exact ih1 _ _)
   | (with_reducible exact ih2 _ _ _ _)
   | (with_reducible exact ih3 _ _ _ _ _)
   | (with_reducible exact tattinglaw1_awake.mono _)
   | (with_reducible exact tok_Cut.mono _ _ _)
   | (with_reducible exact tok_Join.mono _ _)
   | (with_reducible exact LeO.refl _)
   | (with_reducible exact LeO.none _)
   | (with_reducible refine LeO.ite ?_ ?_)
   | (with_reducible refine LeO.bind ?_ (fun _ => ?_))
   | exact ih0 _ _ _ _
   | exact ih1 _ _
   | exact ih2 _ _ _ _
   | exact ih3 _ _ _ _ _
   | exact tattinglaw1_awake.mono _
   | exact tok_Cut.mono _ _ _
   | exact tok_Join.mono _ _
   | exact LeO.none _
   | refine LeO.ite ?_ ?_
   | refine LeO.bind ?_ (fun _ => ?_)
  ·intro y0 y1 y2 y3
   unfold tattinglaw1_TokNames.l0
   repeat' first
   | (with_reducible exact ih0 _ _ _ _)
   | (with_reducible exact ih1 _ _)
   | (with_reducible exact ih2 _ _ _ _)
   | (with_reducible exact ih3 _ _ _ _ _)
   | (with_reducible exact tattinglaw1_awake.mono _)
   | (with_reducible exact tok_Cut.mono _ _ _)
   | (with_reducible exact tok_Join.mono _ _)
   | (with_reducible exact LeO.refl _)
   | (with_reducible exact LeO.none _)
   | (with_reducible refine LeO.ite ?_ ?_)
   | (with_reducible refine LeO.bind ?_ (fun _ => ?_))
   | exact ih0 _ _ _ _
   | exact ih1 _ _
   | exact ih2 _ _ _ _
   | exact ih3 _ _ _ _ _
   | exact tattinglaw1_awake.mono _
   | exact tok_Cut.mono _ _ _
   | exact tok_Join.mono _ _
   | exact LeO.none _
   | refine LeO.ite ?_ ?_
   | refine LeO.bind ?_ (fun _ => ?_)
  ·intro y0 y1 y2 y3 y4
   unfold tattinglaw1_TokNames.l1
   repeat' first
   | (with_reducible exact ih0 _ _ _ _)
   | (with_reducible exact ih1 _ _)
   | (with_reducible exact ih2 _ _ _ _)
   | (with_reducible exact ih3 _ _ _ _ _)
   | (with_reducible exact tattinglaw1_awake.mono _)
   | (with_reducible exact tok_Cut.mono _ _ _)
   | (with_reducible exact tok_Join.mono _ _)
   | (with_reducible exact LeO.refl _)
   | (with_reducible exact LeO.none _)
   | (with_reducible refine LeO.ite ?_ ?_)
   | (with_reducible refine LeO.bind ?_ (fun _ => ?_))
   | exact ih0 _ _ _ _
   | exact ih1 _ _
   | exact ih2 _ _ _ _
   | exact ih3 _ _ _ _ _
   | exact tattinglaw1_awake.mono _
   | exact tok_Cut.mono _ _ _
   | exact tok_Join.mono _ _
   | exact LeO.none _
   | refine LeO.ite ?_ ?_
   | refine LeO.bind ?_ (fun _ => ?_)
theorem tattinglaw1_TokNames.mono : ∀ a0 a1 a2 k, LeO (tattinglaw1_TokNames.f k a0 a1 a2) (tattinglaw1_TokNames.f (k + 1) a0 a1 a2) := by
 intro a0 a1 a2 k
 obtain ⟨ih0, ih1, ih2, ih3⟩ := tattinglaw1_TokNames.mono_l k
 unfold tattinglaw1_TokNames.f
 repeat' first
   | (with_reducible exact ih0 _ _ _ _)
   | (with_reducible exact ih1 _ _)
   | (with_reducible exact ih2 _ _ _ _)
   | (with_reducible exact ih3 _ _ _ _ _)
   | (with_reducible exact tattinglaw1_awake.mono _)
   | (with_reducible exact tok_Cut.mono _ _ _)
   | (with_reducible exact tok_Join.mono _ _)
   | (with_reducible exact LeO.refl _)
   | (with_reducible exact LeO.none _)
   | (with_reducible refine LeO.ite ?_ ?_)
   | (with_reducible refine LeO.bind ?_ (fun _ => ?_))
   | exact ih0 _ _ _ _
   | exact ih1 _ _
   | exact ih2 _ _ _ _
   | exact ih3 _ _ _ _ _
   | exact tattinglaw1_awake.mono _
   | exact tok_Cut.mono _ _ _
   | exact tok_Join.mono _ _
   | exact LeO.none _
   | refine LeO.ite ?_ ?_
   | refine LeO.bind ?_ (fun _ => ?_)
set_option maxHeartbeats 8000000 in
set_option maxRecDepth 100000 in
theorem tattinglaw1_TokNames.calls (k : Nat) (a0 : Int) (a1 : ByteArray) (A2 : Option Addr) (c2 : Nat) (l2 : List Int) (r : Bool) (w : World) (hr2 : Kd.C (Kd.int .u8) w A2 l2.length l2) (hc2 : l2.length ≤ c2) (h : tattinglaw1_TokNames.f k a0 a1 l2 = some r) (hr_ : r = true) :
  Calls Try.prog 6 #[.int .i64 a0, .string a1, .slice A2 l2.length c2] w fun e w' => e = .returned (.bool r) ∧ Below w.heap.size w w' := by
 have HR2 := Aside0.mk hr2
 have HC2 := Aside0.mk hc2
 clear hr2 hc2
 have HB := Aside0.mk (Below.refl w.heap.size w)
 have H : ((tattinglaw1_awake.f k).bind fun t174 => (if t174 = true then (if (a1.size : Int) > 60 then (tattinglaw1_TokNames.j0 k a0 a1 l2 true) else (tattinglaw1_TokNames.j0 k a0 a1 l2 (decide ((l2.length : Int) > 100)))) else (some false))) = some r := h
 clear h
 replace H := Option.bind_eq_some_iff.mp H
 obtain ⟨t174, A40, H⟩ := H
 replace H : (if t174 = true then (if (a1.size : Int) > 60 then (tattinglaw1_TokNames.j0 k a0 a1 l2 true) else (tattinglaw1_TokNames.j0 k a0 a1 l2 (decide ((l2.length : Int) > 100)))) else (some false)) = some r := H
 have A4 := Aside0.mk A40
 clear A40
 by_cases c5 : t174 = true
 ·subst c5
  have H1 : (if (a1.size : Int) > 60 then (tattinglaw1_TokNames.j0 k a0 a1 l2 true) else (tattinglaw1_TokNames.j0 k a0 a1 l2 (decide ((l2.length : Int) > 100)))) = some r := by rw [if_pos rfl] at H; exact H
  clear H
  have H := H1
  clear H1
  have HC6 := Aside0.mk H
  clear H
  go_enter Try.func6, Try.ntmps6
  try dsimp only [List.append]
  go_upto_region 3 with (first | ((first | (with_reducible refine gate_callee (f := 9) rfl ?_); refine goesL_ (some 20) rfl rfl Try.func9 (by kernel_rfl) rfl #[] rfl (by (try simp only [List.map_toArray, List.map_cons, List.map_nil]); first | done | rfl | (simp only [List.length_drop, List.length_take]; rfl)) ?_ | go_at_call 9); (with_reducible refine (tattinglaw1_awake.calls k  true _ A4.out rfl).mono ?_); rintro e w7 ⟨rfl, hb⟩; (try refine ⟨_, rfl, ?_⟩); have n0_ := Aside0.mk (below_step (by repeat (first | (with_reducible first | exact HB.out | apply below_alloc | apply pw_below_drewN | apply below_drew1) | exact HB.out)) hb); clear HB; have HB := n0_; clear n0_; (try clear hb); (try clear hb2); (try clear hk); (try clear hi)))
  (try simp only [Act.put, sA,sB,sC])
  go_cut [29] (fun v29 wc => ∃ (kq : Nat) (x29_5 : Bool), v29 = .bool x29_5 ∧ Aside0 (tattinglaw1_TokNames.j0 kq a0 a1 l2 x29_5 = some r) ∧ Aside0 (kq ≤ k) ∧ Aside0 (Below w.heap.size w wc))
  case first =>
   have H := HC6.out
   clear HC6
   by_cases c8 : (a1.size : Int) > 60
   ·rw [if_pos c8] at H
    have c8b0 : decide (60 < (a1.size : Int)) = true := decide_eq_true c8
    have c8b1 : decide (60 < a1.size) = true := decide_eq_true (by omega)
    clear c8
    (first | rw [c8b0] | (simp only [i64_w, i32_w]; rw [c8b0]) | skip)
    have H' := Aside0.mk H
    clear H
    go_wp2
    go_meet
    case rel => exact ⟨_, (true), (by first | rfl | (simp; done) | (simp [*]; done)), H', ⟨by first | omega | exact Nat.le_refl _⟩, ⟨by repeat (first | (with_reducible first | exact HB.out | apply below_alloc | apply pw_below_drewN | apply below_drew1) | exact HB.out)⟩⟩
   ·rw [if_neg c8] at H
    have c8b0 : decide (60 < (a1.size : Int)) = false := decide_eq_false c8
    have c8b1 : decide (60 < a1.size) = false := decide_eq_false (by omega)
    clear c8
    (first | rw [c8b0] | (simp only [i64_w, i32_w]; rw [c8b0]) | skip)
    have H' := Aside0.mk H
    clear H
    go_wp2
    go_meet
    case rel => exact ⟨_, (decide ((l2.length : Int) > 100)), (by first | rfl | (simp; done) | (simp [*]; done)), H', ⟨by first | omega | exact Nat.le_refl _⟩, ⟨by repeat (first | (with_reducible first | exact HB.out | apply below_alloc | apply pw_below_drewN | apply below_drew1) | exact HB.out)⟩⟩
  case rest =>
   clear HC6
   try clear c2
   try clear p2
   try clear c5
   try clear c6
   try clear c8
   try clear c8b0
   try clear c8b1
   obtain ⟨kq, x29_5, rfl, HA, HJ5, HB⟩ := hcut
   cases kq with
   | zero => exact absurd HA.out (by simp [tattinglaw1_TokNames.j0])
   | succ kj5 =>
    have H := HA.out
    clear HA
    simp only [tattinglaw1_TokNames.j0] at H
    by_cases c9 : x29_5 = true
    ·subst c9
     have H1 : (some true) = some r := by rw [if_pos rfl] at H; exact H
     clear H
     have H := H1
     clear H1
     obtain rfl := Option.some.inj H
     go_wp2
     go_ret
     exact ⟨by first | rfl | (simp [errW_none, errW_some] <;> rfl) | (simp [*, errW_none, errW_some] <;> rfl), by repeat (first | (with_reducible first | exact HB.out | apply below_alloc | apply pw_below_drewN | apply below_drew1) | exact HB.out)⟩
    ·replace c9 := Bool.eq_false_iff.mpr c9
     subst c9
     have H1 : ((tok_Mode.f a1).bind fun bt175 => ((tattingref1_Mode.f a1).bind fun bt177 => ((tok_Name.f a0).bind fun t179 => ((tok_Mode.f t179).bind fun bt180 => (if bt175.1 = bt177.1 then (if (bt175.2 != bt177.2) = true then (tattinglaw1_TokNames.j1 kj5 l2 true) else ((tok_Name.f a0).bind fun t182 => ((tattingref1_Name.f a0).bind fun t183 => (if t182.toList = t183.toList then (if a0 = 0 then (if (bt180.2 != true) = true then (tattinglaw1_TokNames.j1 kj5 l2 true) else (if bt180.2 = true then (tattinglaw1_TokNames.j1 kj5 l2 (bt180.1 != a0)) else (tattinglaw1_TokNames.j1 kj5 l2 false))) else (if (bt180.2 != (a0 == 1)) = true then (tattinglaw1_TokNames.j1 kj5 l2 true) else (if bt180.2 = true then (tattinglaw1_TokNames.j1 kj5 l2 (bt180.1 != a0)) else (tattinglaw1_TokNames.j1 kj5 l2 false)))) else (tattinglaw1_TokNames.j1 kj5 l2 true))))) else (tattinglaw1_TokNames.j1 kj5 l2 true)))))) = some r := by rw [if_neg (show ¬ (false = true) by decide)] at H; exact H
     clear H
     have H := H1
     clear H1
     replace H := Option.bind_eq_some_iff.mp H
     obtain ⟨⟨t175, t176⟩, A100, H⟩ := H
     replace H : ((tattingref1_Mode.f a1).bind fun bt177 => ((tok_Name.f a0).bind fun t179 => ((tok_Mode.f t179).bind fun bt180 => (if t175 = bt177.1 then (if (t176 != bt177.2) = true then (tattinglaw1_TokNames.j1 kj5 l2 true) else ((tok_Name.f a0).bind fun t182 => ((tattingref1_Name.f a0).bind fun t183 => (if t182.toList = t183.toList then (if a0 = 0 then (if (bt180.2 != true) = true then (tattinglaw1_TokNames.j1 kj5 l2 true) else (if bt180.2 = true then (tattinglaw1_TokNames.j1 kj5 l2 (bt180.1 != a0)) else (tattinglaw1_TokNames.j1 kj5 l2 false))) else (if (bt180.2 != (a0 == 1)) = true then (tattinglaw1_TokNames.j1 kj5 l2 true) else (if bt180.2 = true then (tattinglaw1_TokNames.j1 kj5 l2 (bt180.1 != a0)) else (tattinglaw1_TokNames.j1 kj5 l2 false)))) else (tattinglaw1_TokNames.j1 kj5 l2 true))))) else (tattinglaw1_TokNames.j1 kj5 l2 true))))) = some r := H
     have A10 := Aside0.mk A100
     clear A100
     replace H := Option.bind_eq_some_iff.mp H
     obtain ⟨⟨t177, t178⟩, A110, H⟩ := H
     replace H : ((tok_Name.f a0).bind fun t179 => ((tok_Mode.f t179).bind fun bt180 => (if t175 = t177 then (if (t176 != t178) = true then (tattinglaw1_TokNames.j1 kj5 l2 true) else ((tok_Name.f a0).bind fun t182 => ((tattingref1_Name.f a0).bind fun t183 => (if t182.toList = t183.toList then (if a0 = 0 then (if (bt180.2 != true) = true then (tattinglaw1_TokNames.j1 kj5 l2 true) else (if bt180.2 = true then (tattinglaw1_TokNames.j1 kj5 l2 (bt180.1 != a0)) else (tattinglaw1_TokNames.j1 kj5 l2 false))) else (if (bt180.2 != (a0 == 1)) = true then (tattinglaw1_TokNames.j1 kj5 l2 true) else (if bt180.2 = true then (tattinglaw1_TokNames.j1 kj5 l2 (bt180.1 != a0)) else (tattinglaw1_TokNames.j1 kj5 l2 false)))) else (tattinglaw1_TokNames.j1 kj5 l2 true))))) else (tattinglaw1_TokNames.j1 kj5 l2 true)))) = some r := H
     have A11 := Aside0.mk A110
     clear A110
     replace H := Option.bind_eq_some_iff.mp H
     obtain ⟨t179, A120, H⟩ := H
     replace H : ((tok_Mode.f t179).bind fun bt180 => (if t175 = t177 then (if (t176 != t178) = true then (tattinglaw1_TokNames.j1 kj5 l2 true) else ((tok_Name.f a0).bind fun t182 => ((tattingref1_Name.f a0).bind fun t183 => (if t182.toList = t183.toList then (if a0 = 0 then (if (bt180.2 != true) = true then (tattinglaw1_TokNames.j1 kj5 l2 true) else (if bt180.2 = true then (tattinglaw1_TokNames.j1 kj5 l2 (bt180.1 != a0)) else (tattinglaw1_TokNames.j1 kj5 l2 false))) else (if (bt180.2 != (a0 == 1)) = true then (tattinglaw1_TokNames.j1 kj5 l2 true) else (if bt180.2 = true then (tattinglaw1_TokNames.j1 kj5 l2 (bt180.1 != a0)) else (tattinglaw1_TokNames.j1 kj5 l2 false)))) else (tattinglaw1_TokNames.j1 kj5 l2 true))))) else (tattinglaw1_TokNames.j1 kj5 l2 true))) = some r := H
     have A12 := Aside0.mk A120
     clear A120
     replace H := Option.bind_eq_some_iff.mp H
     obtain ⟨⟨t180, t181⟩, A130, H⟩ := H
     replace H : (if t175 = t177 then (if (t176 != t178) = true then (tattinglaw1_TokNames.j1 kj5 l2 true) else ((tok_Name.f a0).bind fun t182 => ((tattingref1_Name.f a0).bind fun t183 => (if t182.toList = t183.toList then (if a0 = 0 then (if (t181 != true) = true then (tattinglaw1_TokNames.j1 kj5 l2 true) else (if t181 = true then (tattinglaw1_TokNames.j1 kj5 l2 (t180 != a0)) else (tattinglaw1_TokNames.j1 kj5 l2 false))) else (if (t181 != (a0 == 1)) = true then (tattinglaw1_TokNames.j1 kj5 l2 true) else (if t181 = true then (tattinglaw1_TokNames.j1 kj5 l2 (t180 != a0)) else (tattinglaw1_TokNames.j1 kj5 l2 false)))) else (tattinglaw1_TokNames.j1 kj5 l2 true))))) else (tattinglaw1_TokNames.j1 kj5 l2 true)) = some r := H
     have A13 := Aside0.mk A130
     clear A130
     have HC14 := Aside0.mk H
     clear H
     go_upto_region 8 with (first | ((first | (with_reducible refine gate_callee (f := 15) rfl ?_); refine goesL_ (some 32) rfl rfl Try.func15 (by kernel_rfl) rfl #[.string a1] rfl (by (try simp only [List.map_toArray, List.map_cons, List.map_nil]); first | done | rfl | (simp only [List.length_drop, List.length_take]; rfl)) ?_ | go_at_call 15); (with_reducible refine (tok_Mode.calls a1 t175 t176 _ A10.out).mono ?_); rintro e w' ⟨rfl, ⟨nd, rfl⟩⟩; (try refine ⟨_, rfl, ?_⟩)) | ((first | (with_reducible refine gate_callee (f := 16) rfl ?_); refine goesL_ (some 37) rfl rfl Try.func16 (by kernel_rfl) rfl #[.string a1] rfl (by (try simp only [List.map_toArray, List.map_cons, List.map_nil]); first | done | rfl | (simp only [List.length_drop, List.length_take]; rfl)) ?_ | go_at_call 16); (with_reducible refine (tattingref1_Mode.calls a1 t177 t178 _ A11.out).mono ?_); rintro e w' ⟨rfl, ⟨nd, rfl⟩⟩; (try refine ⟨_, rfl, ?_⟩)) | ((first | (with_reducible refine gate_callee (f := 17) rfl ?_); refine goesL_ (some 42) rfl rfl Try.func17 (by kernel_rfl) rfl #[.int .i64 a0] rfl (by (try simp only [List.map_toArray, List.map_cons, List.map_nil]); first | done | rfl | (simp only [List.length_drop, List.length_take]; rfl)) ?_ | go_at_call 17); (with_reducible refine (tok_Name.calls a0 t179 _ A12.out).mono ?_); rintro e w' ⟨rfl, ⟨nd, rfl⟩⟩; (try refine ⟨_, rfl, ?_⟩)) | ((first | (with_reducible refine gate_callee (f := 15) rfl ?_); refine goesL_ (some 43) rfl rfl Try.func15 (by kernel_rfl) rfl #[.string t179] rfl (by (try simp only [List.map_toArray, List.map_cons, List.map_nil]); first | done | rfl | (simp only [List.length_drop, List.length_take]; rfl)) ?_ | go_at_call 15); (with_reducible refine (tok_Mode.calls t179 t180 t181 _ A13.out).mono ?_); rintro e w' ⟨rfl, ⟨nd, rfl⟩⟩; (try refine ⟨_, rfl, ?_⟩)))
     (try simp only [Act.put, sA,sB,sC])
     go_cut [78] (fun v78 wc => ∃ (kq : Nat) (x78_13 : Bool), v78 = .bool x78_13 ∧ Aside0 (tattinglaw1_TokNames.j1 kq l2 x78_13 = some r) ∧ Aside0 (kq ≤ kj5) ∧ Aside0 (Below w.heap.size w wc))
     case first =>
      have H := HC14.out
      clear HC14
      by_cases c15 : t175 = t177
      ·rw [if_pos c15] at H
       have c15b0 : (t175 == t177) = true := beq_iff_eq.mpr c15
       have c15b1 : (t175 != t177) = false := bne_eq_false_iff_eq.mpr c15
       clear c15
       (first | rw [c15b0] | (simp only [i64_w, i32_w]; rw [c15b0]) | skip)
       by_cases c16 : (t176 != t178) = true
       ·rw [if_pos c16] at H
        have c16b0 : (t176 != t178) = true := c16
        (try (have c16b1 : decide (t176 = t178) = false := by simpa using c16))
        (try (have c16b2 : (t176 == t178) = false := by simpa using c16))
        (try (have c16b3 : ¬ (t176 = t178) := by simpa using c16))
        clear c16
        have H' := Aside0.mk H
        clear H
        go_wp2
        go_meet
        case rel => exact ⟨_, (true), (by first | rfl | (simp; done) | (simp [*]; done)), H', ⟨by have := HJ5.out; first | omega | exact Nat.le_refl _⟩, ⟨by repeat (first | (with_reducible first | exact HB.out | apply below_alloc | apply pw_below_drewN | apply below_drew1) | exact HB.out)⟩⟩
       ·rw [if_neg c16] at H
        have c16b0 : (t176 != t178) = false := by simpa using c16
        (try (have c16b1 : decide (t176 = t178) = true := by simpa using c16))
        (try (have c16b2 : (t176 == t178) = true := by simpa using c16))
        clear c16
        replace H := Option.bind_eq_some_iff.mp H
        obtain ⟨t182, A170, H⟩ := H
        replace H : ((tattingref1_Name.f a0).bind fun t183 => (if t182.toList = t183.toList then (if a0 = 0 then (if (t181 != true) = true then (tattinglaw1_TokNames.j1 kj5 l2 true) else (if t181 = true then (tattinglaw1_TokNames.j1 kj5 l2 (t180 != a0)) else (tattinglaw1_TokNames.j1 kj5 l2 false))) else (if (t181 != (a0 == 1)) = true then (tattinglaw1_TokNames.j1 kj5 l2 true) else (if t181 = true then (tattinglaw1_TokNames.j1 kj5 l2 (t180 != a0)) else (tattinglaw1_TokNames.j1 kj5 l2 false)))) else (tattinglaw1_TokNames.j1 kj5 l2 true))) = some r := H
        have A17 := Aside0.mk A170
        clear A170
        replace H := Option.bind_eq_some_iff.mp H
        obtain ⟨t183, A180, H⟩ := H
        replace H : (if t182.toList = t183.toList then (if a0 = 0 then (if (t181 != true) = true then (tattinglaw1_TokNames.j1 kj5 l2 true) else (if t181 = true then (tattinglaw1_TokNames.j1 kj5 l2 (t180 != a0)) else (tattinglaw1_TokNames.j1 kj5 l2 false))) else (if (t181 != (a0 == 1)) = true then (tattinglaw1_TokNames.j1 kj5 l2 true) else (if t181 = true then (tattinglaw1_TokNames.j1 kj5 l2 (t180 != a0)) else (tattinglaw1_TokNames.j1 kj5 l2 false)))) else (tattinglaw1_TokNames.j1 kj5 l2 true)) = some r := H
        have A18 := Aside0.mk A180
        clear A180
        by_cases c19 : t182.toList = t183.toList
        ·rw [if_pos c19] at H
         have c19b0 : (t182.toList == t183.toList) = true := beq_iff_eq.mpr c19
         have c19b1 : (t182.toList != t183.toList) = false := bne_eq_false_iff_eq.mpr c19
         clear c19
         by_cases c20 : a0 = 0
         ·rw [if_pos c20] at H
          have c20b0 : (a0 == 0) = true := beq_iff_eq.mpr c20
          have c20b1 : (a0 != 0) = false := bne_eq_false_iff_eq.mpr c20
          clear c20
          by_cases c21 : (t181 != true) = true
          ·rw [if_pos c21] at H
           have c21b0 : (t181 != true) = true := c21
           (try (have c21b1 : decide (t181 = true) = false := by simpa using c21))
           (try (have c21b2 : (t181 == true) = false := by simpa using c21))
           (try (have c21b3 : ¬ (t181 = true) := by simpa using c21))
           clear c21
           have H' := Aside0.mk H
           clear H
           go_wp2_with (first | (go_at_call 17; (with_reducible refine (tok_Name.calls a0 t182 _ A17.out).mono ?_); rintro e w' ⟨rfl, ⟨nd, rfl⟩⟩) | (go_at_call 18; (with_reducible refine (tattingref1_Name.calls a0 t183 _ A18.out).mono ?_); rintro e w' ⟨rfl, ⟨nd, rfl⟩⟩))
           (try (have e_ : t181 = false := (by simpa using c21b0); subst e_))
           go_meet
           case rel => exact ⟨_, (true), (by first | rfl | (simp; done) | (simp [*]; done)), H', ⟨by have := HJ5.out; first | omega | exact Nat.le_refl _⟩, ⟨by repeat (first | (with_reducible first | exact HB.out | apply below_alloc | apply pw_below_drewN | apply below_drew1) | exact HB.out)⟩⟩
          ·rw [if_neg c21] at H
           have c21b0 : (t181 != true) = false := by simpa using c21
           (try (have c21b1 : decide (t181 = true) = true := by simpa using c21))
           (try (have c21b2 : (t181 == true) = true := by simpa using c21))
           clear c21
           by_cases c22 : t181 = true
           ·subst c22
            have H1 : (tattinglaw1_TokNames.j1 kj5 l2 (t180 != a0)) = some r := by rw [if_pos rfl] at H; exact H
            clear H
            have H := H1
            clear H1
            have H' := Aside0.mk H
            clear H
            go_wp2_with (first | (go_at_call 17; (with_reducible refine (tok_Name.calls a0 t182 _ A17.out).mono ?_); rintro e w' ⟨rfl, ⟨nd, rfl⟩⟩) | (go_at_call 18; (with_reducible refine (tattingref1_Name.calls a0 t183 _ A18.out).mono ?_); rintro e w' ⟨rfl, ⟨nd, rfl⟩⟩))
            (try (have e_ : t181 = true := (by simpa using c21b0); subst e_))
            go_meet
            case rel => exact ⟨_, ((t180 != a0)), (by first | rfl | (simp; done) | (simp [*]; done)), H', ⟨by have := HJ5.out; first | omega | exact Nat.le_refl _⟩, ⟨by repeat (first | (with_reducible first | exact HB.out | apply below_alloc | apply pw_below_drewN | apply below_drew1) | exact HB.out)⟩⟩
           ·replace c22 := Bool.eq_false_iff.mpr c22
            subst c22
            have H1 : (tattinglaw1_TokNames.j1 kj5 l2 false) = some r := by rw [if_neg (show ¬ (false = true) by decide)] at H; exact H
            clear H
            have H := H1
            clear H1
            have H' := Aside0.mk H
            clear H
            go_wp2_with (first | (go_at_call 17; (with_reducible refine (tok_Name.calls a0 t182 _ A17.out).mono ?_); rintro e w' ⟨rfl, ⟨nd, rfl⟩⟩) | (go_at_call 18; (with_reducible refine (tattingref1_Name.calls a0 t183 _ A18.out).mono ?_); rintro e w' ⟨rfl, ⟨nd, rfl⟩⟩))
            (try (have e_ : t181 = true := (by simpa using c21b0); subst e_))
            go_meet
            case rel => exact ⟨_, (false), (by first | rfl | (simp; done) | (simp [*]; done)), H', ⟨by have := HJ5.out; first | omega | exact Nat.le_refl _⟩, ⟨by repeat (first | (with_reducible first | exact HB.out | apply below_alloc | apply pw_below_drewN | apply below_drew1) | exact HB.out)⟩⟩
         ·rw [if_neg c20] at H
          have c20b0 : (a0 == 0) = false := beq_eq_false_iff_ne.mpr c20
          have c20b1 : (a0 != 0) = true := bne_iff_ne.mpr c20
          by_cases c23 : (t181 != (a0 == 1)) = true
          ·rw [if_pos c23] at H
           have c23b0 : (t181 != (a0 == 1)) = true := c23
           (try (have c23b1 : decide (t181 = (a0 == 1)) = false := by simpa using c23))
           (try (have c23b2 : (t181 == (a0 == 1)) = false := by simpa using c23))
           (try (have c23b3 : ¬ (t181 = (a0 == 1)) := by simpa using c23))
           clear c23
           have H' := Aside0.mk H
           clear H
           go_wp2_with (first | (go_at_call 17; (with_reducible refine (tok_Name.calls a0 t182 _ A17.out).mono ?_); rintro e w' ⟨rfl, ⟨nd, rfl⟩⟩) | (go_at_call 18; (with_reducible refine (tattingref1_Name.calls a0 t183 _ A18.out).mono ?_); rintro e w' ⟨rfl, ⟨nd, rfl⟩⟩))
           go_meet
           case rel => exact ⟨_, (true), (by first | rfl | (simp; done) | (simp [*]; done)), H', ⟨by have := HJ5.out; first | omega | exact Nat.le_refl _⟩, ⟨by repeat (first | (with_reducible first | exact HB.out | apply below_alloc | apply pw_below_drewN | apply below_drew1) | exact HB.out)⟩⟩
          ·rw [if_neg c23] at H
           have c23b0 : (t181 != (a0 == 1)) = false := by simpa using c23
           (try (have c23b1 : decide (t181 = (a0 == 1)) = true := by simpa using c23))
           (try (have c23b2 : (t181 == (a0 == 1)) = true := by simpa using c23))
           clear c23
           by_cases c24 : t181 = true
           ·subst c24
            have H1 : (tattinglaw1_TokNames.j1 kj5 l2 (t180 != a0)) = some r := by rw [if_pos rfl] at H; exact H
            clear H
            have H := H1
            clear H1
            have H' := Aside0.mk H
            clear H
            go_wp2_with (first | (go_at_call 17; (with_reducible refine (tok_Name.calls a0 t182 _ A17.out).mono ?_); rintro e w' ⟨rfl, ⟨nd, rfl⟩⟩) | (go_at_call 18; (with_reducible refine (tattingref1_Name.calls a0 t183 _ A18.out).mono ?_); rintro e w' ⟨rfl, ⟨nd, rfl⟩⟩))
            go_meet
            case rel => exact ⟨_, ((t180 != a0)), (by first | rfl | (simp; done) | (simp [*]; done)), H', ⟨by have := HJ5.out; first | omega | exact Nat.le_refl _⟩, ⟨by repeat (first | (with_reducible first | exact HB.out | apply below_alloc | apply pw_below_drewN | apply below_drew1) | exact HB.out)⟩⟩
           ·replace c24 := Bool.eq_false_iff.mpr c24
            subst c24
            have H1 : (tattinglaw1_TokNames.j1 kj5 l2 false) = some r := by rw [if_neg (show ¬ (false = true) by decide)] at H; exact H
            clear H
            have H := H1
            clear H1
            have H' := Aside0.mk H
            clear H
            go_wp2_with (first | (go_at_call 17; (with_reducible refine (tok_Name.calls a0 t182 _ A17.out).mono ?_); rintro e w' ⟨rfl, ⟨nd, rfl⟩⟩) | (go_at_call 18; (with_reducible refine (tattingref1_Name.calls a0 t183 _ A18.out).mono ?_); rintro e w' ⟨rfl, ⟨nd, rfl⟩⟩))
            go_meet
            case rel => exact ⟨_, (false), (by first | rfl | (simp; done) | (simp [*]; done)), H', ⟨by have := HJ5.out; first | omega | exact Nat.le_refl _⟩, ⟨by repeat (first | (with_reducible first | exact HB.out | apply below_alloc | apply pw_below_drewN | apply below_drew1) | exact HB.out)⟩⟩
        ·rw [if_neg c19] at H
         have c19b0 : (t182.toList == t183.toList) = false := beq_eq_false_iff_ne.mpr c19
         have c19b1 : (t182.toList != t183.toList) = true := bne_iff_ne.mpr c19
         have H' := Aside0.mk H
         clear H
         go_wp2_with (first | (go_at_call 17; (with_reducible refine (tok_Name.calls a0 t182 _ A17.out).mono ?_); rintro e w' ⟨rfl, ⟨nd, rfl⟩⟩) | (go_at_call 18; (with_reducible refine (tattingref1_Name.calls a0 t183 _ A18.out).mono ?_); rintro e w' ⟨rfl, ⟨nd, rfl⟩⟩))
         go_meet
         case rel => exact ⟨_, (true), (by first | rfl | (simp; done) | (simp [*]; done)), H', ⟨by have := HJ5.out; first | omega | exact Nat.le_refl _⟩, ⟨by repeat (first | (with_reducible first | exact HB.out | apply below_alloc | apply pw_below_drewN | apply below_drew1) | exact HB.out)⟩⟩
      ·rw [if_neg c15] at H
       have c15b0 : (t175 == t177) = false := beq_eq_false_iff_ne.mpr c15
       have c15b1 : (t175 != t177) = true := bne_iff_ne.mpr c15
       (first | rw [c15b0] | (simp only [i64_w, i32_w]; rw [c15b0]) | skip)
       have H' := Aside0.mk H
       clear H
       go_wp2
       go_meet
       case rel => exact ⟨_, (true), (by first | rfl | (simp; done) | (simp [*]; done)), H', ⟨by have := HJ5.out; first | omega | exact Nat.le_refl _⟩, ⟨by repeat (first | (with_reducible first | exact HB.out | apply below_alloc | apply pw_below_drewN | apply below_drew1) | exact HB.out)⟩⟩
     case rest =>
      clear HC14
      try clear c1
      try clear c2
      try clear p2
      try clear c5
      try clear c6
      try clear c8
      try clear c8b0
      try clear c8b1
      try clear c9
      try clear c15
      try clear c15b0
      try clear c15b1
      try clear c16
      try clear c16b0
      try clear c16b1
      try clear c16b2
      try clear c17
      try clear c19
      try clear c19b0
      try clear c19b1
      try clear c20
      try clear c20b0
      try clear c20b1
      try clear c21
      try clear c21b0
      try clear c21b1
      try clear c21b2
      try clear c22
      try clear c23
      try clear c23b0
      try clear c23b1
      try clear c23b2
      try clear c24
      try clear p2
      obtain ⟨kq, x78_13, rfl, HA, HJ13, HB⟩ := hcut
      cases kq with
      | zero => exact absurd HA.out (by simp [tattinglaw1_TokNames.j1])
      | succ kj13 =>
       have H := HA.out
       clear HA
       simp only [tattinglaw1_TokNames.j1] at H
       by_cases c25 : x78_13 = true
       ·subst c25
        have H1 : (some false) = some r := by rw [if_pos rfl] at H; exact H
        clear H
        have H := H1
        clear H1
        exact absurd (Option.some.inj H) (by rw [hr_]; decide)
       ·replace c25 := Bool.eq_false_iff.mpr c25
        subst c25
        have H1 : ((tok_Cut.f kj13 1 l2).bind fun bt184 => (tattinglaw1_TokNames.l0 kj13 l2 (strOfNums l2) bt184.1 0)) = some r := by rw [if_neg (show ¬ (false = true) by decide)] at H; exact H
        clear H
        have H := H1
        clear H1
        replace H := Option.bind_eq_some_iff.mp H
        obtain ⟨⟨t184, t187⟩, A260, H⟩ := H
        replace H : (tattinglaw1_TokNames.l0 kj13 l2 (strOfNums l2) t184 0) = some r := H
        have A26 := Aside0.mk A260
        clear A260
        have H' := Aside0.mk H
        clear H
        have hcv27 := Kd.C_string (P := Try.prog) (A := A2) (c := c2) Try.underlying22 Try.underlying5 Try.underlying9 (Kd.C_below HR2.out HB.out)
        have hcvd28 := fun nd_ => Kd.C_string (P := Try.prog) (A := A2) (c := c2) Try.underlying22 Try.underlying5 Try.underlying9 (Kd.C_drewN (Kd.C_below HR2.out HB.out) nd_)
        go_wp2_with (first | ((first | (with_reducible refine gate_callee (f := 10) rfl ?_); refine goesL_ (some 83) rfl rfl Try.func10 (by kernel_rfl) rfl #[.int .i64 1, .slice A2 l2.length c2] rfl (by (try simp only [List.map_toArray, List.map_cons, List.map_nil]); first | done | rfl | (simp only [List.length_drop, List.length_take]; rfl)) ?_ | go_at_call 10); (with_reducible refine (tok_Cut.calls kj13 1 (fun k_ => k_ < w.heap.size) _ _ l2 t184 t187 _ ?side1 A26.out).mono ?_); (case side1 => exact Kd.V_mk HC2.out (Kd.F_below (Kd.C_F (Kd.heap_int .u8) HR2.out) (by repeat (first | (with_reducible first | exact HB.out | apply below_alloc | apply pw_below_drewN | apply below_drew1) | exact HB.out)))); rintro e w29 ⟨v185, rfl, ho0, hb⟩; (try refine ⟨_, rfl, ?_⟩); have n0_ := Aside0.mk (Kd.S_lower (Kd.S_mono (ok' := fun k_ => True) ho0 (fun _ hk_ => trivial)) (below_size (by repeat (first | (with_reducible first | exact HB.out | apply below_alloc | apply pw_below_drewN | apply below_drew1) | exact HB.out)))); have n1_ := Aside0.mk (below_step (by repeat (first | (with_reducible first | exact HB.out | apply below_alloc | apply pw_below_drewN | apply below_drew1) | exact HB.out)) hb); clear HB; have HO186 := n0_; have HB := n1_; clear n0_ n1_; (try clear hb); (try clear hb2); (try clear hk); (try clear hi); (try clear ho0)))
        go_loopg [16] kj13 (fun kq v16 w' => ∃ (x14_3 : List (List Int)) (x16_3 : Int), v16 = .int .i64 x16_3 ∧ Aside0 (tattinglaw1_TokNames.l0 kq l2 (strOfNums l2) x14_3 x16_3 = some r) ∧ Aside0 (kq ≤ kj13) ∧ Aside0 (Kd.S (Kd.slice 5 (Kd.int .u8)) 22 w' w.heap.size (fun _ => True) v185 x14_3) ∧ Aside0 (Below w.heap.size w w'))
        case atStart => exact ⟨(t184), (0), (by first | rfl | (simp; done) | (simp [*]; done)), H', ⟨Nat.le_refl _⟩, ⟨by (with_reducible repeat (first | apply Kd.S_alloc | apply Kd.S_drewN | apply Kd.S_drew)); exact HO186.out⟩, ⟨by repeat (first | (with_reducible first | exact HB.out | apply below_alloc | apply pw_below_drewN | apply below_drew1) | exact HB.out)⟩⟩
        case round =>
         clear H'
         try clear c1
         try clear c2
         try clear p2
         try clear hcv2
         try clear c5
         try clear c6
         try clear c8
         try clear c8b0
         try clear c8b1
         try clear c9
         try clear c10
         try clear c15
         try clear c15b0
         try clear c15b1
         try clear c16
         try clear c16b0
         try clear c16b1
         try clear c16b2
         try clear c17
         try clear c19
         try clear c19b0
         try clear c19b1
         try clear c20
         try clear c20b0
         try clear c20b1
         try clear c21
         try clear c21b0
         try clear c21b1
         try clear c21b2
         try clear c22
         try clear c23
         try clear c23b0
         try clear c23b1
         try clear c23b2
         try clear c24
         try clear c25
         try clear hcv27
         try clear p2
         obtain ⟨x14_3, x16_3, rfl, HA, HK3, HO_14, HB⟩ := hrel
         cases gk with
         | zero => exact absurd HA.out (by simp [tattinglaw1_TokNames.l0])
         | succ k3 =>
          have H := HA.out
          clear HA
          simp only [tattinglaw1_TokNames.l0] at H
          by_cases c30 : x16_3 < (x14_3.length : Int)
          ·rw [if_pos c30] at H
           have c30b0 : decide (x16_3 < (x14_3.length : Int)) = true := decide_eq_true c30
           clear c30
           have H' := Aside0.mk H
           clear H
           obtain ⟨Ao31, co31, eo31⟩ := Kd.S_slice HO_14.out
           subst eo31
           go_wp2
           go_loopg [17] k3 (fun kq v17 w' => ∃ (x14_4 : List (List Int)) (x17_4 : Int), v17 = .int .i64 x17_4 ∧ Aside0 (tattinglaw1_TokNames.l1 kq l2 (strOfNums l2) x14_4 x16_3 x17_4 = some r) ∧ Aside0 (kq ≤ k3) ∧ Aside0 (Kd.S (Kd.slice 5 (Kd.int .u8)) 22 w' w.heap.size (fun _ => True) (.slice Ao31 x14_3.length co31) x14_4) ∧ Aside0 (Below w.heap.size w w'))
           case atStart => exact ⟨(x14_3), (0), (by first | rfl | (simp; done) | (simp [*]; done)), H', ⟨Nat.le_refl _⟩, ⟨by (with_reducible repeat (first | apply Kd.S_alloc | apply Kd.S_drewN | apply Kd.S_drew)); exact HO_14.out⟩, ⟨by repeat (first | (with_reducible first | exact HB.out | apply below_alloc | apply pw_below_drewN | apply below_drew1) | exact HB.out)⟩⟩
           case round =>
            clear H'
            try clear c1
            try clear c2
            try clear p2
            try clear hcv2
            try clear c3
            try clear c5
            try clear c6
            try clear c8
            try clear c8b0
            try clear c8b1
            try clear c9
            try clear c10
            try clear c15
            try clear c15b0
            try clear c15b1
            try clear c16
            try clear c16b0
            try clear c16b1
            try clear c16b2
            try clear c17
            try clear c19
            try clear c19b0
            try clear c19b1
            try clear c20
            try clear c20b0
            try clear c20b1
            try clear c21
            try clear c21b0
            try clear c21b1
            try clear c21b2
            try clear c22
            try clear c23
            try clear c23b0
            try clear c23b1
            try clear c23b2
            try clear c24
            try clear c25
            try clear hcv27
            try clear c30
            try clear c30b0
            try clear p2
            obtain ⟨x14_4, x17_4, rfl, HA, HK4, HO_14, HB⟩ := hrel
            have hl14_4 := (Kd.S_reads' HO_14.out).1
            rw [hl14_4] at HO_14
            (try simp only [hl14_4])
            cases gk with
            | zero => exact absurd HA.out (by simp [tattinglaw1_TokNames.l1])
            | succ k4 =>
             have H := HA.out
             clear HA
             simp only [tattinglaw1_TokNames.l1] at H
             by_cases c32 : 0 ≤ x16_3
             ·rw [if_pos c32] at H
              have c32b0 : decide (0 ≤ x16_3) = true := decide_eq_true c32
              clear c32
              by_cases c33 : x16_3 < (x14_4.length : Int)
              ·rw [if_pos c33] at H
               have c33b0 : decide (x16_3 < (x14_4.length : Int)) = true := decide_eq_true c33
               try (have c33b0zhl14_4 := c33b0; rw [hl14_4] at c33b0zhl14_4)
               clear c33
               by_cases c34 : x17_4 < ((rd_L1 x14_4 x16_3).length : Int)
               ·rw [if_pos c34] at H
                have c34b0 : decide (x17_4 < ((rd_L1 x14_4 x16_3).length : Int)) = true := decide_eq_true c34
                try (have c34b0zhl14_4 := c34b0; rw [hl14_4] at c34b0zhl14_4)
                clear c34
                by_cases c35 : 0 ≤ x17_4
                ·rw [if_pos c35] at H
                 have c35b0 : decide (0 ≤ x17_4) = true := decide_eq_true c35
                 clear c35
                 obtain ⟨y197, hy197⟩ : ∃ y_ : List Int, y_ = ((rd_L1 x14_4 x16_3).set (x17_4 : Int).toNat 51) := ⟨_, rfl⟩
                 replace H : (tattinglaw1_TokNames.l1 k4 l2 (strOfNums l2) (x14_4.set (x16_3 : Int).toNat y197) x16_3 (wrap64 (x17_4 + 1))) = some r := by first | (rw [hy197]; with_reducible exact H) | (have H2_ := (Option.bind_some _ _).symm.trans H; rw [hy197]; with_reducible exact H2_) | (have H2_ := (Option.bind_some _ _).symm.trans H; with_reducible exact H2_) | with_reducible exact H | (rw [hy197]; exact H) | exact H
                 have Ny197 := Aside0.mk hy197
                 clear hy197
                 obtain ⟨y199, hy199⟩ : ∃ y_ : List (List Int), y_ = (x14_4.set (x16_3 : Int).toNat y197) := ⟨_, rfl⟩
                 replace H : (tattinglaw1_TokNames.l1 k4 l2 (strOfNums l2) y199 x16_3 (wrap64 (x17_4 + 1))) = some r := by first | (rw [hy199]; with_reducible exact H) | (have H2_ := (Option.bind_some _ _).symm.trans H; rw [hy199]; with_reducible exact H2_) | (have H2_ := (Option.bind_some _ _).symm.trans H; with_reducible exact H2_) | with_reducible exact H | (rw [hy199]; exact H) | exact H
                 have Ny199 := Aside0.mk hy199
                 clear hy199
                 have H' := Aside0.mk H
                 clear H
                 have p195 : 0 ≤ (x16_3 : Int) := of_decide_eq_true (by first | (with_reducible assumption) | assumption)
                 have q195 : x16_3 < (x14_4.length : Int) := of_decide_eq_true (by first | (with_reducible assumption) | assumption)
                 try (obtain ⟨Ap195, cp195, ep195⟩ := Kd.S_slice HO_14.out; subst ep195)
                 obtain ⟨ad195, A195_0, c195_0, e195, hx195_0, hl195_0, hi195_0⟩ := at_L1 (Kd.S_reads' HO_14.out).2.2 x16_3 p195 q195
                 cases e195
                 obtain ⟨ce195, hce195, hMe195, hcc195⟩ := Kd.S_get HO_14.out [] x16_3 p195 (by first | exact q195 | exact of_decide_eq_true (by first | (with_reducible assumption) | assumption) | (have e_ := (Kd.S_reads' HO_14.out).1; omega))
                 obtain ⟨ve195_0, rfl, ge195_0⟩ := hMe195
                 have hv195_0 := hcc195 0 _ rfl
                 rw [Nat.add_zero, show ((Kd.slice 5 (Kd.int .u8))).sz = 1 from rfl, Nat.mul_one] at hv195_0
                 replace hv195_0 := Option.some.inj (hv195_0.symm.trans hx195_0)
                 rw [hv195_0] at ge195_0
                 have HL195_0 := Aside0.mk (show Kd.R (Kd.int .u8) 5 _ _ _ _ (rd_L1 x14_4 x16_3) from ge195_0)
                 clear hv195_0 ge195_0
                 have HX195_0 := Aside0.mk hx195_0
                 clear hcc195 hce195
                 have HR195_0 := Aside0.mk hi195_0
                 have HC195_0 := Aside0.mk hl195_0
                 clear hi195_0 hl195_0
                 replace p195 := eq_true p195
                 replace q195 := eq_true q195
                 have p196 : 0 ≤ (x16_3 : Int) := of_decide_eq_true (by first | (with_reducible assumption) | assumption)
                 have q196 : x16_3 < (x14_4.length : Int) := of_decide_eq_true (by first | (with_reducible assumption) | assumption)
                 try (obtain ⟨Ap196, cp196, ep196⟩ := Kd.S_slice HO_14.out; subst ep196)
                 obtain ⟨ad196, A196_0, c196_0, e196, hx196_0, hl196_0, hi196_0⟩ := at_L1 (Kd.S_reads' HO_14.out).2.2 x16_3 p196 q196
                 obtain rfl : ad195 = ad196 := (by injection e196)
                 obtain ⟨ce196, hce196, hMe196, hcc196⟩ := Kd.S_get HO_14.out [] x16_3 p196 (by first | exact q196 | exact of_decide_eq_true (by first | (with_reducible assumption) | assumption) | (have e_ := (Kd.S_reads' HO_14.out).1; omega))
                 obtain ⟨ve196_0, rfl, ge196_0⟩ := hMe196
                 have hv196_0 := hcc196 0 _ rfl
                 rw [Nat.add_zero, show ((Kd.slice 5 (Kd.int .u8))).sz = 1 from rfl, Nat.mul_one] at hv196_0
                 replace hv196_0 := Option.some.inj (hv196_0.symm.trans hx196_0)
                 rw [hv196_0] at ge196_0
                 have HL196_0 := Aside0.mk (show Kd.R (Kd.int .u8) 5 _ _ _ _ (rd_L1 x14_4 x16_3) from ge196_0)
                 clear hv196_0 ge196_0
                 have HX196_0 := Aside0.mk hx196_0
                 clear hcc196 hce196
                 have HR196_0 := Aside0.mk hi196_0
                 have HC196_0 := Aside0.mk hl196_0
                 clear hi196_0 hl196_0
                 replace p196 := eq_true p196
                 replace q196 := eq_true q196
                 have ea_ := Option.some.inj (hx195_0.symm.trans hx196_0)
                 injection ea_ with ea_ en_ ec_
                 subst ea_
                 subst ec_
                 clear en_
                 have p36 : 0 ≤ (x17_4 : Int) := of_decide_eq_true (by first | (with_reducible assumption) | assumption)
                 have q36 : (x17_4 : Int) < (((rd_L1 x14_4 x16_3).length : Int) : Int) := of_decide_eq_true (by first | (with_reducible assumption) | assumption)
                 obtain ⟨go36, co36, eo36, gb36, gl36, cl36, HG36⟩ := Kd.R_form HL196_0.out (by omega)
                 (first | cases eo36 | (injection eo36 with ea_ en_ ec_; (first | subst ea_ | (injection ea_ with ea_; subst ea_)); subst ec_; clear en_))
                 have GB36 := Aside0.mk gb36
                 have GG36 := Aside0.mk HG36
                 clear gb36 gl36 HG36
                 obtain ⟨hx36_0, hf36_0⟩ := Kd.R_celln 0 HL196_0.out (x17_4 : Int) p36 q36
                 replace p36 := eq_true p36
                 replace q36 := eq_true q36
                 have hq37 : (x16_3 : Int) < (x14_4.length : Int) := (by have h_ : (x16_3 : Int) < ((x14_4.length : Int) : Int) := of_decide_eq_true (by first | (with_reducible assumption) | assumption); first | exact h_ | (have e_ := (Kd.S_reads' HO_14.out).1; omega) | simpa only [List.length_set, List.length_set] using h_)
                 obtain ⟨oki37, ce37, hcl37, hM37, hcc37, hok37, hbk37⟩ := Kd.S_borrow HO_14.out [] (x16_3 : Int) (of_decide_eq_true (by first | (with_reducible assumption) | assumption)) hq37
                 obtain ⟨ve37_0, rfl, ge37_0⟩ := hM37
                 have hv37 := hcc37 0 _ rfl
                 rw [Nat.add_zero, show ((Kd.slice 5 (Kd.int .u8))).sz = 1 from rfl, Nat.mul_one] at hv37
                 replace hv37 := Option.some.inj (hv37.symm.trans HX196_0.out)
                 subst hv37
                 clear hcc37 hcl37
                 replace ge37_0 := (show Kd.R (Kd.int .u8) 5 _ _ _ _ (rd_L1 x14_4 x16_3) from ge37_0)
                 have HP37 := Kd.R_putg ge37_0 (x17_4 : Int) 51
                 go_wp2_with (first | ((with_reducible refine gate_store (t := 5) (p := 106) rfl ?_); refine store_event (t := 5) (p := 106) (v := ?vo_w38) (w1 := (wr.setCell ⟨go36, (x17_4 : Int).toNat, none⟩ (.int .u8 51))) ?hg ?ho ?hn ?hr ?_; (case ho => rfl); (case hg => rfl); (case hn => rfl); (case hr => first | (go_simp; done) | (go_simp; rfl)); intro w38 hw; have hg : wr.grownBy w38 (some go36) := (by rw [hw]; exact HP37.2); have hz_ : Kd.R (Kd.int .u8) 5 w38 w.heap.size oki37 (.slice (some ⟨go36, 0, none⟩) (rd_L1 x14_4 x16_3).length c195_0) y197 := (by rw [hw, Ny197.out]; exact HP37.1); have hp_ : Kd.S (Kd.slice 5 (Kd.int .u8)) 22 w38 w.heap.size (fun _ => True) (.slice (some ad195) x14_4.length co31) y199 := (by rw [Ny199.out]; exact hbk37 hg (fun k_ e_ => by injection e_ with e_; subst e_; exact ge37_0.1 _ rfl) (Kd.M_row hz_)); have hm_ := Kd.R_mono hz_ hok37; clear HP37 hbk37; have n0_ := Aside0.mk (hp_); have n1_ := Aside0.mk ((by rw [hw]; exact below_set (HB.out) GB36.out : Below w.heap.size w w38)); have n2_ := Aside0.mk (hm_); have n3_ := Aside0.mk ((Kd.R_reads' hm_).2.1); clear HO_14; clear HB; clear HL195_0; clear HL196_0; have HO_14 := n0_; have HB := n1_; have HL200 := n2_; have HC198 := n3_; clear n0_ n1_ n2_ n3_; (try clear hg); (try clear hw); (try clear hp_); (try clear hz_); (try clear hm_); (try clear hok37)))
                 (try simp only [← hl14_4])
                 go_roundg k4
                 case measure => have := HJ5.out; have := HJ13.out; have := HK3.out; have := HK4.out; omega
                 case rel => exact ⟨(y199), (wrap64 (x17_4 + 1)), (by first | rfl | (simp; done) | (simp [*]; done)), H', ⟨by have := HJ5.out; have := HJ13.out; have := HK3.out; have := HK4.out; omega⟩, ⟨by (try simp only [hl14_4]); (with_reducible repeat (first | apply Kd.S_alloc | apply Kd.S_drewN | apply Kd.S_drew)); exact HO_14.out⟩, ⟨by repeat (first | (with_reducible first | exact HB.out | apply below_alloc | apply pw_below_drewN | apply below_drew1) | exact HB.out)⟩⟩
                ·rw [if_neg c35] at H
                 exact absurd H (by simp)
               ·rw [if_neg c34] at H
                have c34b0 : decide (x17_4 < ((rd_L1 x14_4 x16_3).length : Int)) = false := decide_eq_false c34
                try (have c34b0zhl14_4 := c34b0; rw [hl14_4] at c34b0zhl14_4)
                clear c34
                have H' := Aside0.mk H
                clear H
                have p195 : 0 ≤ (x16_3 : Int) := of_decide_eq_true (by first | (with_reducible assumption) | assumption)
                have q195 : x16_3 < (x14_4.length : Int) := of_decide_eq_true (by first | (with_reducible assumption) | assumption)
                try (obtain ⟨Ap195, cp195, ep195⟩ := Kd.S_slice HO_14.out; subst ep195)
                obtain ⟨ad195, A195_0, c195_0, e195, hx195_0, hl195_0, hi195_0⟩ := at_L1 (Kd.S_reads' HO_14.out).2.2 x16_3 p195 q195
                cases e195
                obtain ⟨ce195, hce195, hMe195, hcc195⟩ := Kd.S_get HO_14.out [] x16_3 p195 (by first | exact q195 | exact of_decide_eq_true (by first | (with_reducible assumption) | assumption) | (have e_ := (Kd.S_reads' HO_14.out).1; omega))
                obtain ⟨ve195_0, rfl, ge195_0⟩ := hMe195
                have hv195_0 := hcc195 0 _ rfl
                rw [Nat.add_zero, show ((Kd.slice 5 (Kd.int .u8))).sz = 1 from rfl, Nat.mul_one] at hv195_0
                replace hv195_0 := Option.some.inj (hv195_0.symm.trans hx195_0)
                rw [hv195_0] at ge195_0
                have HL195_0 := Aside0.mk (show Kd.R (Kd.int .u8) 5 _ _ _ _ (rd_L1 x14_4 x16_3) from ge195_0)
                clear hv195_0 ge195_0
                have HX195_0 := Aside0.mk hx195_0
                clear hcc195 hce195
                have HR195_0 := Aside0.mk hi195_0
                have HC195_0 := Aside0.mk hl195_0
                clear hi195_0 hl195_0
                replace p195 := eq_true p195
                replace q195 := eq_true q195
                go_wp2
                (try simp only [← hl14_4])
                go_roundg k4
                case measure => have := HJ5.out; have := HJ13.out; have := HK3.out; have := HK4.out; omega
                case rel => exact ⟨(x14_4), (wrap64 (x16_3 + 1)), (by first | rfl | (simp; done) | (simp [*]; done)), H', ⟨by have := HJ5.out; have := HJ13.out; have := HK3.out; have := HK4.out; omega⟩, ⟨by (try simp only [hl14_4]); (with_reducible repeat (first | apply Kd.S_alloc | apply Kd.S_drewN | apply Kd.S_drew)); exact HO_14.out⟩, ⟨by repeat (first | (with_reducible first | exact HB.out | apply below_alloc | apply pw_below_drewN | apply below_drew1) | exact HB.out)⟩⟩
              ·rw [if_neg c33] at H
               exact absurd H (by simp)
             ·rw [if_neg c32] at H
              exact absurd H (by simp)
          ·rw [if_neg c30] at H
           have c30b0 : decide (x16_3 < (x14_3.length : Int)) = false := decide_eq_false c30
           clear c30
           replace H := Option.bind_eq_some_iff.mp H
           obtain ⟨⟨t188, t191⟩, A390, H⟩ := H
           replace H : (if (strOfNums l2).toList = (strOfNums l2).toList then ((tok_Join.f k3 t188).bind fun t192 => (some ((strOfNums t192).toList == (strOfNums l2).toList))) else (some false)) = some r := by first | exact H | (rw [if_pos trivial] at H; rw [if_pos rfl]; exact H)
           have A39 := Aside0.mk A390
           clear A390
           by_cases c40 : (strOfNums l2).toList = (strOfNums l2).toList
           ·rw [if_pos c40] at H
            have c40b0 : ((strOfNums l2).toList == (strOfNums l2).toList) = true := beq_iff_eq.mpr c40
            have c40b1 : ((strOfNums l2).toList != (strOfNums l2).toList) = false := bne_eq_false_iff_eq.mpr c40
            clear c40
            replace H := Option.bind_eq_some_iff.mp H
            obtain ⟨t192, A410, H⟩ := H
            replace H : (some ((strOfNums t192).toList == (strOfNums l2).toList)) = some r := H
            have A41 := Aside0.mk A410
            clear A410
            obtain rfl := Option.some.inj H
            obtain ⟨Ao42, co42, eo42⟩ := Kd.S_slice HO_14.out
            subst eo42
            go_wp2_with (first | ((first | (with_reducible refine gate_callee (f := 10) rfl ?_); refine goesL_ (some 109) rfl rfl Try.func10 (by kernel_rfl) rfl #[.int .i64 1, .slice A2 l2.length c2] rfl (by (try simp only [List.map_toArray, List.map_cons, List.map_nil]); first | done | rfl | (simp only [List.length_drop, List.length_take]; rfl)) ?_ | go_at_call 10); (with_reducible refine (tok_Cut.calls k3 1 (fun k_ => k_ < w.heap.size) _ _ l2 t188 t191 _ ?side1 A39.out).mono ?_); (case side1 => exact Kd.V_mk HC2.out (Kd.F_below (Kd.C_F (Kd.heap_int .u8) HR2.out) (by repeat (first | (with_reducible first | exact HB.out | apply below_alloc | apply pw_below_drewN | apply below_drew1) | exact HB.out)))); rintro e w43 ⟨v189, rfl, ho0, hb⟩; (try refine ⟨_, rfl, ?_⟩); have n0_ := Aside0.mk (Kd.S_elder' (by (with_reducible repeat (first | apply Kd.S_alloc | apply Kd.S_drewN | apply Kd.S_drew)); exact HO_14.out) (Kd.S_base ho0) hb); have n1_ := Aside0.mk (Kd.S_lower (Kd.S_new' (Kd.S_mono (ok' := fun k_ => True) ho0 (fun _ hk_ => trivial)) (Kd.S_lt (by (with_reducible repeat (first | apply Kd.S_alloc | apply Kd.S_drewN | apply Kd.S_drew)); exact HO_14.out))) (below_size (by repeat (first | (with_reducible first | exact HB.out | apply below_alloc | apply pw_below_drewN | apply below_drew1) | exact HB.out)))); have n2_ := Aside0.mk (below_step (by repeat (first | (with_reducible first | exact HB.out | apply below_alloc | apply pw_below_drewN | apply below_drew1) | exact HB.out)) hb); clear HO_14; clear HB; have HO_14 := n0_; have HO190 := n1_; have HB := n2_; clear n0_ n1_ n2_; (try clear hb); (try clear hb2); (try clear hk); (try clear hi); (try clear ho0); have hcv44 := Kd.C_string (P := Try.prog) (A := A2) (c := c2) Try.underlying22 Try.underlying5 Try.underlying9 (Kd.C_below HR2.out HB.out); have hcvd45 := fun nd_ => Kd.C_string (P := Try.prog) (A := A2) (c := c2) Try.underlying22 Try.underlying5 Try.underlying9 (Kd.C_drewN (Kd.C_below HR2.out HB.out) nd_); obtain ⟨Ao46, co46, eo46⟩ := Kd.S_slice HO190.out; subst eo46) | (go_at_call 11; (with_reducible refine (tok_Join.calls k3 _ _ t188 t192 _ ?side1 ?side2 A41.out).mono ?_); (case side1 => repeat (first | exact (Kd.S_reads' HO190.out).2.2 | (with_reducible refine Kd.C_alloc ?_ _) | (with_reducible refine Kd.C_drewN ?_ _) | (with_reducible refine Kd.C_drew ?_))); (case side2 => exact (Kd.S_reads' HO190.out).2.1); rintro e w47 ⟨v193, rfl, ho0, hb⟩; have n0_ := Aside0.mk (Kd.S_elder' (by (with_reducible repeat (first | apply Kd.S_alloc | apply Kd.S_drewN | apply Kd.S_drew)); exact HO_14.out) (Kd.R_base ho0) hb); have n1_ := Aside0.mk (Kd.S_elder' (by (with_reducible repeat (first | apply Kd.S_alloc | apply Kd.S_drewN | apply Kd.S_drew)); exact HO190.out) (Kd.R_base ho0) hb); have n2_ := Aside0.mk (Kd.R_lower ho0 (below_size (by repeat (first | (with_reducible first | exact HB.out | apply below_alloc | apply pw_below_drewN | apply below_drew1) | exact HB.out)))); have n3_ := Aside0.mk (below_step (by repeat (first | (with_reducible first | exact HB.out | apply below_alloc | apply pw_below_drewN | apply below_drew1) | exact HB.out)) hb); clear HO_14; clear HO190; clear HB; have HO_14 := n0_; have HO190 := n1_; have HO194 := n2_; have HB := n3_; clear n0_ n1_ n2_ n3_; (try clear hb); (try clear hb2); (try clear hk); (try clear hi); (try clear ho0); have hcv48 := own_string (P := Try.prog) Try.underlying22 Try.underlying5 Try.underlying9 (Kd.own_of_R HO194.out); have hcvd49 := fun nd_ => own_string (P := Try.prog) Try.underlying22 Try.underlying5 Try.underlying9 (Kd.own_of_R (Kd.R_drewN HO194.out nd_))))
            go_ret
            exact ⟨by first | rfl | (simp [errW_none, errW_some] <;> rfl) | (simp [*, errW_none, errW_some] <;> rfl), by repeat (first | (with_reducible first | exact HB.out | apply below_alloc | apply pw_below_drewN | apply below_drew1) | exact HB.out)⟩
           ·rw [if_neg c40] at H
            have c40b0 : ((strOfNums l2).toList == (strOfNums l2).toList) = false := beq_eq_false_iff_ne.mpr c40
            have c40b1 : ((strOfNums l2).toList != (strOfNums l2).toList) = true := bne_iff_ne.mpr c40
            exact absurd (Option.some.inj H) (by rw [hr_]; decide)
 ·replace c5 := Bool.eq_false_iff.mpr c5
  subst c5
  have H1 : (some false) = some r := by rw [if_neg (show ¬ (false = true) by decide)] at H; exact H
  clear H
  have H := H1
  clear H1
  exact absurd (Option.some.inj H) (by rw [hr_]; decide)

/-- THE ONE PURE STATEMENT of tattinglaw1_TokNames: yours. -/
def tattinglaw1_TokNames.Pure : Prop := ∀ (a0 : Int) (a1 : ByteArray) (l2 : List Int), (Lit.int .i64 a0).wf = true → a1.size ≤ 140737488351232 → l2.length ≤ maxLen → l2.length * 1 ≤ 140737488351232 → (∀ x ∈ l2, (Lit.int .u8 x).wf = true) → ∃ k, tattinglaw1_TokNames.f k a0 a1 l2 = some true
theorem tattinglaw1_TokNames.walk (P : tattinglaw1_TokNames.Pure) (a0 : Int) (a1 : ByteArray) (a2 : Option Addr) (len2 cap2 : Nat) (z2 : List Int) (w : World) (w0 : (Lit.int .i64 a0).wf = true) (w1 : a1.size ≤ 140737488351232) (w2 : (a2 = none ∧ len2 = 0 ∧ cap2 = 0 ∧ z2 = []) ∨ ∃ x, a2 = some x ∧ len2 ≤ cap2 ∧ cap2 ≤ maxLen ∧ z2.length = cap2 ∧ (∀ i, i < z2.length → w.cell? (x.add i) = some (.int .u8 (z2.getD i 0))) ∧ ∀ n ∈ z2, (Lit.int .u8 n).wf = true) (y2 : len2 * 1 ≤ 140737488351232) :
  Calls Try.prog 6 #[.int .i64 a0, .string a1, .slice a2 len2 cap2] w fun e w' => e = .returned (.bool true) ∧ Below w.heap.size w w' := by
 obtain ⟨l2, rfl, hr2, hm2, hw2, hc2⟩ := ReadsInt.ofRowC w2
 obtain ⟨k, h⟩ := P a0 a1 l2 w0 w1 hm2 y2 hw2
 refine (tattinglaw1_TokNames.calls k a0 a1 _ _ l2 true w (Kd.C_of_reads (d := (0 : Int)) (h1 := fun _ => rfl) hr2) hc2 h rfl).mono ?_
 rintro e w' ⟨rfl, hd⟩
 exact ⟨rfl, hd⟩

end Go.Proofs.Ytfmkiankjibkfaa.PTokNames
