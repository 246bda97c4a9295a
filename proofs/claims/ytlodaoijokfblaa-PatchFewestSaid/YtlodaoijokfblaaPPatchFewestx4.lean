/- What the given program's functions come to, each a Lean function and the walk that shows it: no condition beside those that each theorem names. -/
import Derived.Test.YtlodaoijokfblaaPPatchFewestx0
namespace Go.Proofs.Ytlodaoijokfblaa.PPatchFewest
open Go.RowKit Go.Proofs.YtlodaoijokfblaaW.PrintWords Go.Proofs.YtlodaoijokfblaaW.PrintLast Go.Proofs.YtlodaoijokfblaaW.PrintMore
attribute [local go_sem] max2_int min2_int max_two min_two max_three min_three max_four min_four   -- for this text's walks alone
set_option linter.unusedVariables false
set_option linter.unusedSimpArgs false

/-! ### tattingref24_Count: function 21 -/
def tattingref24_Count.l0 : Nat → List (S28) → Int → Int → Int → Option (Int × Int)
 | 0, _, _, _, _ => none
 | k + 1, x0, x4, x5, x6 => if x6 < (x0.length : Int) then (if 0 ≤ x6 then (tattingref24_Count.l0 k x0 (wrap64 (x4 + (((rd_T28 x0 x6).f1).length : Int))) (wrap64 (x5 + (((rd_T28 x0 x6).f2).length : Int))) (wrap64 (x6 + 1))) else (none)) else (some (x4, x5))
def tattingref24_Count.f (k : Nat) (l0 : List (S28)) : Option (Int × Int) := tattingref24_Count.l0 k l0 0 0 0
theorem tattingref24_Count.mono_l : ∀ k, (∀ y0 y1 y2 y3, LeO (tattingref24_Count.l0 k y0 y1 y2 y3) (tattingref24_Count.l0 (k + 1) y0 y1 y2 y3))
 | 0 => fun _ _ _ _ r h => by simp [tattingref24_Count.l0] at h
 | k + 1 => by
  have ih0 := tattingref24_Count.mono_l k
  ·intro y0 y1 y2 y3
   unfold tattingref24_Count.l0
   repeat' first
   | (with_reducible exact ih0 _ _ _ _)
   | (with_reducible exact LeO.refl _)
   | (with_reducible exact LeO.none _)
   | (with_reducible refine LeO.ite ?_ ?_)
   | (with_reducible refine LeO.bind ?_ (fun _ => ?_))
   | exact ih0 _ _ _ _
   | exact LeO.none _
   | refine LeO.ite ?_ ?_
   | refine LeO.bind ?_ (fun _ => ?_)
theorem tattingref24_Count.mono : ∀ a0 k, LeO (tattingref24_Count.f k a0) (tattingref24_Count.f (k + 1) a0) := by
 intro a0 k
 have ih0 := tattingref24_Count.mono_l k
 unfold tattingref24_Count.f
 repeat' first
   | (with_reducible exact ih0 _ _ _ _)
   | (with_reducible exact LeO.refl _)
   | (with_reducible exact LeO.none _)
   | (with_reducible refine LeO.ite ?_ ?_)
   | (with_reducible refine LeO.bind ?_ (fun _ => ?_))
   | exact ih0 _ _ _ _
   | exact LeO.none _
   | refine LeO.ite ?_ ?_
   | refine LeO.bind ?_ (fun _ => ?_)
set_option maxHeartbeats 8000000 in
set_option maxRecDepth 100000 in
theorem tattingref24_Count.calls (k : Nat) (A0 : Option Addr) (c0 : Nat) (l0 : List (S28)) (r1 : Int) (r2 : Int) (w : World) (hr0 : Kd.C k28 w A0 l0.length l0) (hc0 : l0.length ≤ c0) (h : tattingref24_Count.f k l0 = some (r1, r2)) :
  Calls Try.prog 21 #[.slice A0 l0.length c0] w fun e w' => e = .returned (.tuple #[.int .i64 r1, .int .i64 r2]) ∧ Drawn0 w w' := by
 have HR0 := Aside0.mk hr0
 have HC0 := Aside0.mk hc0
 clear hr0 hc0
 have H : (tattingref24_Count.l0 k l0 0 0 0) = some (r1, r2) := h
 clear h
 have H' := Aside0.mk H
 clear H
 go_enter Try.func21, Try.ntmps21
 go_wp2
 repeat (go_quiet (fail); try go_wp2)
 go_loopg [4, 5, 6] k (fun kq v4 v5 v6 w' => ∃ (x4_1 : Int) (x5_1 : Int) (x6_1 : Int), v4 = .int .i64 x4_1 ∧ v5 = .int .i64 x5_1 ∧ v6 = .int .i64 x6_1 ∧ Aside0 (tattingref24_Count.l0 kq l0 x4_1 x5_1 x6_1 = some (r1, r2)) ∧ Aside0 (kq ≤ k) ∧ Drawn0 w w')
 case atStart => exact ⟨(0), (0), (0), (by first | rfl | (simp; done) | (simp [*]; done)), (by first | rfl | (simp; done) | (simp [*]; done)), (by first | rfl | (simp; done) | (simp [*]; done)), H', ⟨Nat.le_refl _⟩, by repeat (first | exact Drawn0.refl _ | apply Drawn0.step)⟩
 case round =>
  clear H'
  obtain ⟨x4_1, x5_1, x6_1, rfl, rfl, rfl, HA, HK1, ⟨m1, rfl⟩⟩ := hrel
  cases gk with
  | zero => exact absurd HA.out (by simp [tattingref24_Count.l0])
  | succ k1 =>
   have H := HA.out
   clear HA
   simp only [tattingref24_Count.l0] at H
   by_cases c2 : x6_1 < (l0.length : Int)
   ·rw [if_pos c2] at H
    have c2b0 : decide (x6_1 < (l0.length : Int)) = true := decide_eq_true c2
    clear c2
    by_cases c3 : 0 ≤ x6_1
    ·rw [if_pos c3] at H
     have c3b0 : decide (0 ≤ x6_1) = true := decide_eq_true c3
     clear c3
     have H' := Aside0.mk H
     clear H
     have p251 : 0 ≤ (x6_1 : Int) := of_decide_eq_true (by first | (with_reducible assumption) | assumption)
     have q251 : x6_1 < (l0.length : Int) := of_decide_eq_true (by first | (with_reducible assumption) | assumption)
     obtain ⟨ad251, A251_1, c251_1, A251_2, c251_2, e251, hx251_0, hx251_1, hx251_2, hl251_1, hi251_1, hl251_2, hi251_2⟩ := at_T28 HR0.out x6_1 p251 q251
     cases e251
     have HR251_1 := Aside0.mk hi251_1
     have HC251_1 := Aside0.mk hl251_1
     clear hi251_1 hl251_1
     have HR251_2 := Aside0.mk hi251_2
     have HC251_2 := Aside0.mk hl251_2
     clear hi251_2 hl251_2
     replace p251 := eq_true p251
     replace q251 := eq_true q251
     have p252 : 0 ≤ (x6_1 : Int) := of_decide_eq_true (by first | (with_reducible assumption) | assumption)
     have q252 : x6_1 < (l0.length : Int) := of_decide_eq_true (by first | (with_reducible assumption) | assumption)
     obtain ⟨ad252, A252_1, c252_1, A252_2, c252_2, e252, hx252_0, hx252_1, hx252_2, hl252_1, hi252_1, hl252_2, hi252_2⟩ := at_T28 HR0.out x6_1 p252 q252
     obtain rfl : ad251 = ad252 := (by injection e252)
     have HR252_1 := Aside0.mk hi252_1
     have HC252_1 := Aside0.mk hl252_1
     clear hi252_1 hl252_1
     have HR252_2 := Aside0.mk hi252_2
     have HC252_2 := Aside0.mk hl252_2
     clear hi252_2 hl252_2
     replace p252 := eq_true p252
     replace q252 := eq_true q252
     have ea_ := Option.some.inj (hx251_1.symm.trans hx252_1)
     injection ea_ with ea_ en_ ec_
     subst ea_
     subst ec_
     clear en_
     have ea_ := Option.some.inj (hx251_2.symm.trans hx252_2)
     injection ea_ with ea_ en_ ec_
     subst ea_
     subst ec_
     clear en_
     go_wp2
     repeat (go_quiet (fail); try go_wp2)
     go_roundg k1
     case measure => have := HK1.out; omega
     case rel => exact ⟨(wrap64 (x4_1 + (((rd_T28 l0 x6_1).f1).length : Int))), (wrap64 (x5_1 + (((rd_T28 l0 x6_1).f2).length : Int))), (wrap64 (x6_1 + 1)), (by first | rfl | (simp; done) | (simp [*]; done)), (by first | rfl | (simp; done) | (simp [*]; done)), (by first | rfl | (simp; done) | (simp [*]; done)), H', ⟨by have := HK1.out; omega⟩, by repeat (first | exact Drawn0.refl _ | apply Drawn0.step)⟩
    ·rw [if_neg c3] at H
     exact absurd H (by simp)
   ·rw [if_neg c2] at H
    have c2b0 : decide (x6_1 < (l0.length : Int)) = false := decide_eq_false c2
    clear c2
    simp only [Option.some.injEq, Prod.mk.injEq] at H
    obtain ⟨rfl, rfl⟩ := H
    go_wp2
    repeat (go_quiet (fail); try go_wp2)
    go_ret2
    exact ⟨by first | rfl | (simp; done) | (simp [*]; done), by repeat (first | exact Drawn0.refl _ | apply Drawn0.step)⟩

end Go.Proofs.Ytlodaoijokfblaa.PPatchFewest
