/- What the given program's functions come to, each a Lean function and the walk that shows it: no condition beside those that each theorem names. -/
import Derived.Test.YtpodjfnmncpnmaaPPairsKnownx0
import Derived.Test.YtpodjfnmncpnmaaPPairsKnownx2
import Derived.Test.YtpodjfnmncpnmaaPPairsKnownx3
namespace Go.Proofs.Ytpodjfnmncpnmaa.PPairsKnown
open Go.RowKit Go.Proofs.YtpodjfnmncpnmaaW.PrintWords Go.Proofs.YtpodjfnmncpnmaaW.PrintLast Go.Proofs.YtpodjfnmncpnmaaW.PrintMore
attribute [local go_sem] max2_int min2_int max_two min_two max_three min_three max_four min_four   -- for this text's walks alone
set_option linter.unusedVariables false
set_option linter.unusedSimpArgs false

/-! ### pairs_Less: function 15 -/
def pairs_Less.l0 : Nat → List (S24) → List (S24) → Int → Int → Option (Bool)
 | 0, _, _, _, _ => none
 | k + 1, x0, x1, x10, x11 => if x11 < x10 then (if 0 ≤ x11 then (if x11 < (x0.length : Int) then (if x11 < (x1.length : Int) then (if ((rd_T24 x0 x11).f0) = ((rd_T24 x1 x11).f0) then (if ((rd_T24 x0 x11).f1) = ((rd_T24 x1 x11).f1) then (pairs_Less.l0 k x0 x1 x10 (wrap64 (x11 + 1))) else (some (decide (((rd_T24 x0 x11).f1) < ((rd_T24 x1 x11).f1))))) else (some (decide (((rd_T24 x0 x11).f0) < ((rd_T24 x1 x11).f0))))) else (none)) else (none)) else (none)) else (some (decide ((x0.length : Int) < (x1.length : Int))))
def pairs_Less.f (k : Nat) (l0 : List (S24)) (l1 : List (S24)) : Option (Bool) := pairs_Less.l0 k l0 l1 (mn (l0.length : Int) (l1.length : Int)) 0
theorem pairs_Less.mono_l : ∀ k, (∀ y0 y1 y2 y3, LeO (pairs_Less.l0 k y0 y1 y2 y3) (pairs_Less.l0 (k + 1) y0 y1 y2 y3))
 | 0 => fun _ _ _ _ r h => by simp [pairs_Less.l0] at h
 | k + 1 => by
  have ih0 := pairs_Less.mono_l k
  ·intro y0 y1 y2 y3
   unfold pairs_Less.l0
   repeat' first
   | (with_reducible exact ih0 _ _ _ _)
   | (with_reducible exact LeO.refl _)
   | (with_reducible exact LeO.none _)
   | (with_reducible refine LeO.ite ?_ ?_)
   | (with_reducible refine LeO.bind ?_ (fun _ => ?_))
   | exact ih0 _ _ _ _
   | exact LeO.none _
   | refine LeO.ite ?_ ?_
   | refine LeO.bind ?_ (fun _ => ?_)
theorem pairs_Less.mono : ∀ a0 a1 k, LeO (pairs_Less.f k a0 a1) (pairs_Less.f (k + 1) a0 a1) := by
 intro a0 a1 k
 have ih0 := pairs_Less.mono_l k
 unfold pairs_Less.f
 repeat' first
   | (with_reducible exact ih0 _ _ _ _)
   | (with_reducible exact LeO.refl _)
   | (with_reducible exact LeO.none _)
   | (with_reducible refine LeO.ite ?_ ?_)
   | (with_reducible refine LeO.bind ?_ (fun _ => ?_))
   | exact ih0 _ _ _ _
   | exact LeO.none _
   | refine LeO.ite ?_ ?_
   | refine LeO.bind ?_ (fun _ => ?_)
set_option maxHeartbeats 8000000 in
set_option maxRecDepth 100000 in
theorem pairs_Less.calls (k : Nat) (A0 : Option Addr) (c0 : Nat) (l0 : List (S24)) (A1 : Option Addr) (c1 : Nat) (l1 : List (S24)) (r : Bool) (w : World) (hr0 : Kd.C k24 w A0 l0.length l0) (hc0 : l0.length ≤ c0) (hr1 : Kd.C k24 w A1 l1.length l1) (hc1 : l1.length ≤ c1) (h : pairs_Less.f k l0 l1 = some r) :
  Calls Try.prog 15 #[.slice A0 l0.length c0, .slice A1 l1.length c1] w fun e w' => e = .returned (.bool r) ∧ Below w.heap.size w w' := by
 have HR0 := Aside0.mk hr0
 have HC0 := Aside0.mk hc0
 clear hr0 hc0
 have HR1 := Aside0.mk hr1
 have HC1 := Aside0.mk hc1
 clear hr1 hc1
 have HB := Aside0.mk (Below.refl w.heap.size w)
 have H : (pairs_Less.l0 k l0 l1 (mn (l0.length : Int) (l1.length : Int)) 0) = some r := h
 clear h
 obtain ⟨ji3, hji3⟩ : ∃ j_ : Int, (mn (l0.length : Int) (l1.length : Int)) = j_ := ⟨_, rfl⟩
 replace H : (pairs_Less.l0 k l0 l1 ji3 0) = some r := by first | (rw [hji3] at H; exact H) | (simp only [hji3] at H ⊢; exact H)
 (try (have hji3l : 0 ≤ ji3 := by (rw [← hji3]; unfold mn; (repeat' split) <;> omega)))
 (try (have hji3m : 0 ≤ ji3 := by omega))
 have hji3_ : (if (l1.length : Int) < (l0.length : Int) then (l1.length : Int) else (l0.length : Int)) = ji3 := hji3
 have hji3n : (if l1.length < l0.length then (l1.length : Int) else (l0.length : Int)) = ji3 := by rw [← hji3_]; simp only [Int.ofNat_lt]
 have H' := Aside0.mk H
 clear H
 go_enter Try.func15, Try.ntmps15
 try dsimp only [List.append]
 go_wp2
 repeat (go_quiet (fail); try go_wp2)
 go_loopg [11] k (fun kq v11 w' => ∃ (x11_1 : Int), v11 = .int .i64 x11_1 ∧ Aside0 (pairs_Less.l0 kq l0 l1 ji3 x11_1 = some r) ∧ Aside0 (kq ≤ k) ∧ Aside0 (Below w.heap.size w w'))
 case atStart => exact ⟨(0), (by first | rfl | (simp; done) | (simp [*]; done)), H', ⟨Nat.le_refl _⟩, ⟨by repeat (first | (with_reducible first | exact HB.out | apply below_alloc | apply pw_below_drewN | apply below_drew1) | exact HB.out)⟩⟩
 case round =>
  clear H'
  try clear c1
  try clear p2
  obtain ⟨x11_1, rfl, HA, HK1, HB⟩ := hrel
  cases gk with
  | zero => exact absurd HA.out (by simp [pairs_Less.l0])
  | succ k1 =>
   have H := HA.out
   clear HA
   simp only [pairs_Less.l0] at H
   by_cases c4 : x11_1 < ji3
   ·rw [if_pos c4] at H
    have c4b0 : decide (x11_1 < ji3) = true := decide_eq_true c4
    clear c4
    by_cases c5 : 0 ≤ x11_1
    ·rw [if_pos c5] at H
     have c5b0 : decide (0 ≤ x11_1) = true := decide_eq_true c5
     clear c5
     by_cases c6 : x11_1 < (l0.length : Int)
     ·rw [if_pos c6] at H
      have c6b0 : decide (x11_1 < (l0.length : Int)) = true := decide_eq_true c6
      clear c6
      by_cases c7 : x11_1 < (l1.length : Int)
      ·rw [if_pos c7] at H
       have c7b0 : decide (x11_1 < (l1.length : Int)) = true := decide_eq_true c7
       clear c7
       by_cases c8 : ((rd_T24 l0 x11_1).f0) = ((rd_T24 l1 x11_1).f0)
       ·rw [if_pos c8] at H
        have c8b0 : (((rd_T24 l0 x11_1).f0) == ((rd_T24 l1 x11_1).f0)) = true := beq_iff_eq.mpr c8
        have c8b1 : (((rd_T24 l0 x11_1).f0) != ((rd_T24 l1 x11_1).f0)) = false := bne_eq_false_iff_eq.mpr c8
        clear c8
        by_cases c9 : ((rd_T24 l0 x11_1).f1) = ((rd_T24 l1 x11_1).f1)
        ·rw [if_pos c9] at H
         have c9b0 : (((rd_T24 l0 x11_1).f1) == ((rd_T24 l1 x11_1).f1)) = true := beq_iff_eq.mpr c9
         have c9b1 : (((rd_T24 l0 x11_1).f1) != ((rd_T24 l1 x11_1).f1)) = false := bne_eq_false_iff_eq.mpr c9
         clear c9
         have H' := Aside0.mk H
         clear H
         have p127 : 0 ≤ (x11_1 : Int) := of_decide_eq_true (by first | (with_reducible assumption) | assumption)
         have q127 : x11_1 < (l0.length : Int) := of_decide_eq_true (by first | (with_reducible assumption) | assumption)
         obtain ⟨ad127, e127, hx127_0, hx127_1⟩ := at_T24 HR0.out x11_1 p127 q127
         cases e127
         replace hx127_0 := (HB.out.cell (World.block_lt_of_cell? w _ hx127_0)).trans hx127_0
         replace hx127_1 := (HB.out.cell (World.block_lt_of_cell? w _ hx127_1)).trans hx127_1
         replace p127 := eq_true p127
         replace q127 := eq_true q127
         have p128 : 0 ≤ (x11_1 : Int) := of_decide_eq_true (by first | (with_reducible assumption) | assumption)
         have q128 : x11_1 < (l1.length : Int) := of_decide_eq_true (by first | (with_reducible assumption) | assumption)
         obtain ⟨ad128, e128, hx128_0, hx128_1⟩ := at_T24 HR1.out x11_1 p128 q128
         cases e128
         replace hx128_0 := (HB.out.cell (World.block_lt_of_cell? w _ hx128_0)).trans hx128_0
         replace hx128_1 := (HB.out.cell (World.block_lt_of_cell? w _ hx128_1)).trans hx128_1
         replace p128 := eq_true p128
         replace q128 := eq_true q128
         have p129 : 0 ≤ (x11_1 : Int) := of_decide_eq_true (by first | (with_reducible assumption) | assumption)
         have q129 : x11_1 < (l0.length : Int) := of_decide_eq_true (by first | (with_reducible assumption) | assumption)
         obtain ⟨ad129, e129, hx129_0, hx129_1⟩ := at_T24 HR0.out x11_1 p129 q129
         obtain rfl : ad127 = ad129 := (by injection e129)
         replace hx129_0 := (HB.out.cell (World.block_lt_of_cell? w _ hx129_0)).trans hx129_0
         replace hx129_1 := (HB.out.cell (World.block_lt_of_cell? w _ hx129_1)).trans hx129_1
         replace p129 := eq_true p129
         replace q129 := eq_true q129
         have p130 : 0 ≤ (x11_1 : Int) := of_decide_eq_true (by first | (with_reducible assumption) | assumption)
         have q130 : x11_1 < (l1.length : Int) := of_decide_eq_true (by first | (with_reducible assumption) | assumption)
         obtain ⟨ad130, e130, hx130_0, hx130_1⟩ := at_T24 HR1.out x11_1 p130 q130
         obtain rfl : ad128 = ad130 := (by injection e130)
         replace hx130_0 := (HB.out.cell (World.block_lt_of_cell? w _ hx130_0)).trans hx130_0
         replace hx130_1 := (HB.out.cell (World.block_lt_of_cell? w _ hx130_1)).trans hx130_1
         replace p130 := eq_true p130
         replace q130 := eq_true q130
         go_wp2
         repeat (go_quiet (fail); try go_wp2)
         go_roundg k1
         case measure => have := HK1.out; omega
         case rel => exact ⟨(wrap64 (x11_1 + 1)), (by first | rfl | (simp; done) | (simp [*]; done)), H', ⟨by have := HK1.out; omega⟩, ⟨by repeat (first | (with_reducible first | exact HB.out | apply below_alloc | apply pw_below_drewN | apply below_drew1) | exact HB.out)⟩⟩
        ·rw [if_neg c9] at H
         have c9b0 : (((rd_T24 l0 x11_1).f1) == ((rd_T24 l1 x11_1).f1)) = false := beq_eq_false_iff_ne.mpr c9
         have c9b1 : (((rd_T24 l0 x11_1).f1) != ((rd_T24 l1 x11_1).f1)) = true := bne_iff_ne.mpr c9
         obtain rfl := Option.some.inj H
         have p127 : 0 ≤ (x11_1 : Int) := of_decide_eq_true (by first | (with_reducible assumption) | assumption)
         have q127 : x11_1 < (l0.length : Int) := of_decide_eq_true (by first | (with_reducible assumption) | assumption)
         obtain ⟨ad127, e127, hx127_0, hx127_1⟩ := at_T24 HR0.out x11_1 p127 q127
         cases e127
         replace hx127_0 := (HB.out.cell (World.block_lt_of_cell? w _ hx127_0)).trans hx127_0
         replace hx127_1 := (HB.out.cell (World.block_lt_of_cell? w _ hx127_1)).trans hx127_1
         replace p127 := eq_true p127
         replace q127 := eq_true q127
         have p128 : 0 ≤ (x11_1 : Int) := of_decide_eq_true (by first | (with_reducible assumption) | assumption)
         have q128 : x11_1 < (l1.length : Int) := of_decide_eq_true (by first | (with_reducible assumption) | assumption)
         obtain ⟨ad128, e128, hx128_0, hx128_1⟩ := at_T24 HR1.out x11_1 p128 q128
         cases e128
         replace hx128_0 := (HB.out.cell (World.block_lt_of_cell? w _ hx128_0)).trans hx128_0
         replace hx128_1 := (HB.out.cell (World.block_lt_of_cell? w _ hx128_1)).trans hx128_1
         replace p128 := eq_true p128
         replace q128 := eq_true q128
         have p129 : 0 ≤ (x11_1 : Int) := of_decide_eq_true (by first | (with_reducible assumption) | assumption)
         have q129 : x11_1 < (l0.length : Int) := of_decide_eq_true (by first | (with_reducible assumption) | assumption)
         obtain ⟨ad129, e129, hx129_0, hx129_1⟩ := at_T24 HR0.out x11_1 p129 q129
         obtain rfl : ad127 = ad129 := (by injection e129)
         replace hx129_0 := (HB.out.cell (World.block_lt_of_cell? w _ hx129_0)).trans hx129_0
         replace hx129_1 := (HB.out.cell (World.block_lt_of_cell? w _ hx129_1)).trans hx129_1
         replace p129 := eq_true p129
         replace q129 := eq_true q129
         have p130 : 0 ≤ (x11_1 : Int) := of_decide_eq_true (by first | (with_reducible assumption) | assumption)
         have q130 : x11_1 < (l1.length : Int) := of_decide_eq_true (by first | (with_reducible assumption) | assumption)
         obtain ⟨ad130, e130, hx130_0, hx130_1⟩ := at_T24 HR1.out x11_1 p130 q130
         obtain rfl : ad128 = ad130 := (by injection e130)
         replace hx130_0 := (HB.out.cell (World.block_lt_of_cell? w _ hx130_0)).trans hx130_0
         replace hx130_1 := (HB.out.cell (World.block_lt_of_cell? w _ hx130_1)).trans hx130_1
         replace p130 := eq_true p130
         replace q130 := eq_true q130
         have p131 : 0 ≤ (x11_1 : Int) := of_decide_eq_true (by first | (with_reducible assumption) | assumption)
         have q131 : x11_1 < (l0.length : Int) := of_decide_eq_true (by first | (with_reducible assumption) | assumption)
         obtain ⟨ad131, e131, hx131_0, hx131_1⟩ := at_T24 HR0.out x11_1 p131 q131
         obtain rfl : ad127 = ad131 := (by injection e131)
         replace hx131_0 := (HB.out.cell (World.block_lt_of_cell? w _ hx131_0)).trans hx131_0
         replace hx131_1 := (HB.out.cell (World.block_lt_of_cell? w _ hx131_1)).trans hx131_1
         replace p131 := eq_true p131
         replace q131 := eq_true q131
         have p132 : 0 ≤ (x11_1 : Int) := of_decide_eq_true (by first | (with_reducible assumption) | assumption)
         have q132 : x11_1 < (l1.length : Int) := of_decide_eq_true (by first | (with_reducible assumption) | assumption)
         obtain ⟨ad132, e132, hx132_0, hx132_1⟩ := at_T24 HR1.out x11_1 p132 q132
         obtain rfl : ad128 = ad132 := (by injection e132)
         replace hx132_0 := (HB.out.cell (World.block_lt_of_cell? w _ hx132_0)).trans hx132_0
         replace hx132_1 := (HB.out.cell (World.block_lt_of_cell? w _ hx132_1)).trans hx132_1
         replace p132 := eq_true p132
         replace q132 := eq_true q132
         go_wp2
         repeat (go_quiet (fail); try go_wp2)
         go_ret
         exact ⟨by first | rfl | (simp [errW_none, errW_some] <;> rfl) | (simp only [← hji3]; first | rfl | (simp [errW_none, errW_some] <;> rfl)) | (simp [*, errW_none, errW_some] <;> rfl), by repeat (first | (with_reducible first | exact HB.out | apply below_alloc | apply pw_below_drewN | apply below_drew1) | exact HB.out)⟩
       ·rw [if_neg c8] at H
        have c8b0 : (((rd_T24 l0 x11_1).f0) == ((rd_T24 l1 x11_1).f0)) = false := beq_eq_false_iff_ne.mpr c8
        have c8b1 : (((rd_T24 l0 x11_1).f0) != ((rd_T24 l1 x11_1).f0)) = true := bne_iff_ne.mpr c8
        obtain rfl := Option.some.inj H
        have p127 : 0 ≤ (x11_1 : Int) := of_decide_eq_true (by first | (with_reducible assumption) | assumption)
        have q127 : x11_1 < (l0.length : Int) := of_decide_eq_true (by first | (with_reducible assumption) | assumption)
        obtain ⟨ad127, e127, hx127_0, hx127_1⟩ := at_T24 HR0.out x11_1 p127 q127
        cases e127
        replace hx127_0 := (HB.out.cell (World.block_lt_of_cell? w _ hx127_0)).trans hx127_0
        replace hx127_1 := (HB.out.cell (World.block_lt_of_cell? w _ hx127_1)).trans hx127_1
        replace p127 := eq_true p127
        replace q127 := eq_true q127
        have p128 : 0 ≤ (x11_1 : Int) := of_decide_eq_true (by first | (with_reducible assumption) | assumption)
        have q128 : x11_1 < (l1.length : Int) := of_decide_eq_true (by first | (with_reducible assumption) | assumption)
        obtain ⟨ad128, e128, hx128_0, hx128_1⟩ := at_T24 HR1.out x11_1 p128 q128
        cases e128
        replace hx128_0 := (HB.out.cell (World.block_lt_of_cell? w _ hx128_0)).trans hx128_0
        replace hx128_1 := (HB.out.cell (World.block_lt_of_cell? w _ hx128_1)).trans hx128_1
        replace p128 := eq_true p128
        replace q128 := eq_true q128
        have p133 : 0 ≤ (x11_1 : Int) := of_decide_eq_true (by first | (with_reducible assumption) | assumption)
        have q133 : x11_1 < (l0.length : Int) := of_decide_eq_true (by first | (with_reducible assumption) | assumption)
        obtain ⟨ad133, e133, hx133_0, hx133_1⟩ := at_T24 HR0.out x11_1 p133 q133
        obtain rfl : ad127 = ad133 := (by injection e133)
        replace hx133_0 := (HB.out.cell (World.block_lt_of_cell? w _ hx133_0)).trans hx133_0
        replace hx133_1 := (HB.out.cell (World.block_lt_of_cell? w _ hx133_1)).trans hx133_1
        replace p133 := eq_true p133
        replace q133 := eq_true q133
        have p134 : 0 ≤ (x11_1 : Int) := of_decide_eq_true (by first | (with_reducible assumption) | assumption)
        have q134 : x11_1 < (l1.length : Int) := of_decide_eq_true (by first | (with_reducible assumption) | assumption)
        obtain ⟨ad134, e134, hx134_0, hx134_1⟩ := at_T24 HR1.out x11_1 p134 q134
        obtain rfl : ad128 = ad134 := (by injection e134)
        replace hx134_0 := (HB.out.cell (World.block_lt_of_cell? w _ hx134_0)).trans hx134_0
        replace hx134_1 := (HB.out.cell (World.block_lt_of_cell? w _ hx134_1)).trans hx134_1
        replace p134 := eq_true p134
        replace q134 := eq_true q134
        go_wp2
        repeat (go_quiet (fail); try go_wp2)
        go_ret
        exact ⟨by first | rfl | (simp [errW_none, errW_some] <;> rfl) | (simp only [← hji3]; first | rfl | (simp [errW_none, errW_some] <;> rfl)) | (simp [*, errW_none, errW_some] <;> rfl), by repeat (first | (with_reducible first | exact HB.out | apply below_alloc | apply pw_below_drewN | apply below_drew1) | exact HB.out)⟩
      ·rw [if_neg c7] at H
       exact absurd H (by simp)
     ·rw [if_neg c6] at H
      exact absurd H (by simp)
    ·rw [if_neg c5] at H
     exact absurd H (by simp)
   ·rw [if_neg c4] at H
    have c4b0 : decide (x11_1 < ji3) = false := decide_eq_false c4
    clear c4
    obtain rfl := Option.some.inj H
    go_wp2
    repeat (go_quiet (fail); try go_wp2)
    go_ret
    exact ⟨by first | rfl | (simp [errW_none, errW_some] <;> rfl) | (simp only [← hji3]; first | rfl | (simp [errW_none, errW_some] <;> rfl)) | (simp [*, errW_none, errW_some] <;> rfl), by repeat (first | (with_reducible first | exact HB.out | apply below_alloc | apply pw_below_drewN | apply below_drew1) | exact HB.out)⟩

/-! ### tattinglaw7_awake: function 13 -/
def tattinglaw7_awake.f (k : Nat)  : Option (Bool) := (some (([(⟨0, 1⟩ : S24)] : List (S24)) : List (S24))).bind fun y135 => ((pairs_Good.f k (([1, 2] : List Int)) (([2, 1] : List Int)) y135).bind fun t144 => (if t144 = true then ((pairs_Good.f k (([1] : List Int)) (([2] : List Int)) (([(⟨0, 0⟩ : S24)] : List (S24)))).bind fun t154 => (if t154 = true then (some false) else ((pairs_Less.f k ([] : List (S24)) y135).bind fun t155 => (if t155 = true then ((pairs_Less.f k y135 ([] : List (S24))).bind fun t156 => (if t156 = true then (some false) else ((pairs_Turn.f k y135).bind fun t157 => (if (t157.length : Int) = 1 then ((pairs_Move.f k y135 1 1).bind fun t160 => (if (t160.length : Int) = 1 then ((pairs_Values.f k (([5] : List Int)) y135).bind fun t166 => (some ((t166.length : Int) == 1))) else (some false))) else (some false))))) else (some false))))) else (some false)))
theorem tattinglaw7_awake.mono : ∀ k, LeO (tattinglaw7_awake.f k ) (tattinglaw7_awake.f (k + 1) ) := by
 intro  k
 unfold tattinglaw7_awake.f
 repeat' first
   | (with_reducible exact pairs_Good.mono _ _ _ _)
   | (with_reducible exact pairs_Less.mono _ _ _)
   | (with_reducible exact pairs_Move.mono _ _ _ _)
   | (with_reducible exact pairs_Turn.mono _ _)
   | (with_reducible exact pairs_Values.mono _ _ _)
   | (with_reducible exact LeO.refl _)
   | (with_reducible exact LeO.none _)
   | (with_reducible refine LeO.ite ?_ ?_)
   | (with_reducible refine LeO.bind ?_ (fun _ => ?_))
   | exact pairs_Good.mono _ _ _ _
   | exact pairs_Less.mono _ _ _
   | exact pairs_Move.mono _ _ _ _
   | exact pairs_Turn.mono _ _
   | exact pairs_Values.mono _ _ _
   | exact LeO.none _
   | refine LeO.ite ?_ ?_
   | refine LeO.bind ?_ (fun _ => ?_)
set_option maxHeartbeats 8000000 in
set_option maxRecDepth 100000 in
theorem tattinglaw7_awake.calls (k : Nat)  (r : Bool) (w : World) (h : tattinglaw7_awake.f k  = some r) (hr_ : r = true) :
  Calls Try.prog 13 #[] w fun e w' => e = .returned (.bool r) ∧ Below w.heap.size w w' := by
 have hu24 := Try.underlying24
 have HB := Aside0.mk (Below.refl w.heap.size w)
 have H : ((some (([(⟨0, 1⟩ : S24)] : List (S24)) : List (S24))).bind fun y135 => ((pairs_Good.f k (([1, 2] : List Int)) (([2, 1] : List Int)) y135).bind fun t144 => (if t144 = true then ((pairs_Good.f k (([1] : List Int)) (([2] : List Int)) (([(⟨0, 0⟩ : S24)] : List (S24)))).bind fun t154 => (if t154 = true then (some false) else ((pairs_Less.f k ([] : List (S24)) y135).bind fun t155 => (if t155 = true then ((pairs_Less.f k y135 ([] : List (S24))).bind fun t156 => (if t156 = true then (some false) else ((pairs_Turn.f k y135).bind fun t157 => (if (t157.length : Int) = 1 then ((pairs_Move.f k y135 1 1).bind fun t160 => (if (t160.length : Int) = 1 then ((pairs_Values.f k (([5] : List Int)) y135).bind fun t166 => (some ((t166.length : Int) == 1))) else (some false))) else (some false))))) else (some false))))) else (some false)))) = some r := h
 clear h
 obtain ⟨y135, hy135⟩ : ∃ y_ : List (S24), y_ = (([(⟨0, 1⟩ : S24)] : List (S24))) := ⟨_, rfl⟩
 replace H : ((pairs_Good.f k (([1, 2] : List Int)) (([2, 1] : List Int)) y135).bind fun t144 => (if t144 = true then ((pairs_Good.f k (([1] : List Int)) (([2] : List Int)) (([(⟨0, 0⟩ : S24)] : List (S24)))).bind fun t154 => (if t154 = true then (some false) else ((pairs_Less.f k ([] : List (S24)) y135).bind fun t155 => (if t155 = true then ((pairs_Less.f k y135 ([] : List (S24))).bind fun t156 => (if t156 = true then (some false) else ((pairs_Turn.f k y135).bind fun t157 => (if (t157.length : Int) = 1 then ((pairs_Move.f k y135 1 1).bind fun t160 => (if (t160.length : Int) = 1 then ((pairs_Values.f k (([5] : List Int)) y135).bind fun t166 => (some ((t166.length : Int) == 1))) else (some false))) else (some false))))) else (some false))))) else (some false))) = some r := by first | (rw [hy135]; with_reducible exact H) | (have H2_ := (Option.bind_some _ _).symm.trans H; rw [hy135]; with_reducible exact H2_) | (have H2_ := (Option.bind_some _ _).symm.trans H; with_reducible exact H2_) | with_reducible exact H | (rw [hy135]; exact H) | exact H
 have Ny135 := Aside0.mk hy135
 clear hy135
 obtain ⟨y138, hy138⟩ : ∃ y_ : List Int, y_ = (([1, 2] : List Int)) := ⟨_, rfl⟩
 replace H : ((pairs_Good.f k y138 (([2, 1] : List Int)) y135).bind fun t144 => (if t144 = true then ((pairs_Good.f k (([1] : List Int)) (([2] : List Int)) (([(⟨0, 0⟩ : S24)] : List (S24)))).bind fun t154 => (if t154 = true then (some false) else ((pairs_Less.f k ([] : List (S24)) y135).bind fun t155 => (if t155 = true then ((pairs_Less.f k y135 ([] : List (S24))).bind fun t156 => (if t156 = true then (some false) else ((pairs_Turn.f k y135).bind fun t157 => (if (t157.length : Int) = 1 then ((pairs_Move.f k y135 1 1).bind fun t160 => (if (t160.length : Int) = 1 then ((pairs_Values.f k (([5] : List Int)) y135).bind fun t166 => (some ((t166.length : Int) == 1))) else (some false))) else (some false))))) else (some false))))) else (some false))) = some r := by first | (rw [hy138]; with_reducible exact H) | (have H2_ := (Option.bind_some _ _).symm.trans H; rw [hy138]; with_reducible exact H2_) | (have H2_ := (Option.bind_some _ _).symm.trans H; with_reducible exact H2_) | with_reducible exact H | (rw [hy138]; exact H) | exact H
 have Ny138 := Aside0.mk hy138
 clear hy138
 obtain ⟨y141, hy141⟩ : ∃ y_ : List Int, y_ = (([2, 1] : List Int)) := ⟨_, rfl⟩
 replace H : ((pairs_Good.f k y138 y141 y135).bind fun t144 => (if t144 = true then ((pairs_Good.f k (([1] : List Int)) (([2] : List Int)) (([(⟨0, 0⟩ : S24)] : List (S24)))).bind fun t154 => (if t154 = true then (some false) else ((pairs_Less.f k ([] : List (S24)) y135).bind fun t155 => (if t155 = true then ((pairs_Less.f k y135 ([] : List (S24))).bind fun t156 => (if t156 = true then (some false) else ((pairs_Turn.f k y135).bind fun t157 => (if (t157.length : Int) = 1 then ((pairs_Move.f k y135 1 1).bind fun t160 => (if (t160.length : Int) = 1 then ((pairs_Values.f k (([5] : List Int)) y135).bind fun t166 => (some ((t166.length : Int) == 1))) else (some false))) else (some false))))) else (some false))))) else (some false))) = some r := by first | (rw [hy141]; with_reducible exact H) | (have H2_ := (Option.bind_some _ _).symm.trans H; rw [hy141]; with_reducible exact H2_) | (have H2_ := (Option.bind_some _ _).symm.trans H; with_reducible exact H2_) | with_reducible exact H | (rw [hy141]; exact H) | exact H
 have Ny141 := Aside0.mk hy141
 clear hy141
 replace H := Option.bind_eq_some_iff.mp H
 obtain ⟨t144, A10, H⟩ := H
 replace H : (if t144 = true then ((pairs_Good.f k (([1] : List Int)) (([2] : List Int)) (([(⟨0, 0⟩ : S24)] : List (S24)))).bind fun t154 => (if t154 = true then (some false) else ((pairs_Less.f k ([] : List (S24)) y135).bind fun t155 => (if t155 = true then ((pairs_Less.f k y135 ([] : List (S24))).bind fun t156 => (if t156 = true then (some false) else ((pairs_Turn.f k y135).bind fun t157 => (if (t157.length : Int) = 1 then ((pairs_Move.f k y135 1 1).bind fun t160 => (if (t160.length : Int) = 1 then ((pairs_Values.f k (([5] : List Int)) y135).bind fun t166 => (some ((t166.length : Int) == 1))) else (some false))) else (some false))))) else (some false))))) else (some false)) = some r := H
 have A1 := Aside0.mk A10
 clear A10
 by_cases c2 : t144 = true
 ·subst c2
  have H1 : ((pairs_Good.f k (([1] : List Int)) (([2] : List Int)) (([(⟨0, 0⟩ : S24)] : List (S24)))).bind fun t154 => (if t154 = true then (some false) else ((pairs_Less.f k ([] : List (S24)) y135).bind fun t155 => (if t155 = true then ((pairs_Less.f k y135 ([] : List (S24))).bind fun t156 => (if t156 = true then (some false) else ((pairs_Turn.f k y135).bind fun t157 => (if (t157.length : Int) = 1 then ((pairs_Move.f k y135 1 1).bind fun t160 => (if (t160.length : Int) = 1 then ((pairs_Values.f k (([5] : List Int)) y135).bind fun t166 => (some ((t166.length : Int) == 1))) else (some false))) else (some false))))) else (some false))))) = some r := by rw [if_pos rfl] at H; exact H
  clear H
  have H := H1
  clear H1
  obtain ⟨y145, hy145⟩ : ∃ y_ : List Int, y_ = (([1] : List Int)) := ⟨_, rfl⟩
  replace H : ((pairs_Good.f k y145 (([2] : List Int)) (([(⟨0, 0⟩ : S24)] : List (S24)))).bind fun t154 => (if t154 = true then (some false) else ((pairs_Less.f k ([] : List (S24)) y135).bind fun t155 => (if t155 = true then ((pairs_Less.f k y135 ([] : List (S24))).bind fun t156 => (if t156 = true then (some false) else ((pairs_Turn.f k y135).bind fun t157 => (if (t157.length : Int) = 1 then ((pairs_Move.f k y135 1 1).bind fun t160 => (if (t160.length : Int) = 1 then ((pairs_Values.f k (([5] : List Int)) y135).bind fun t166 => (some ((t166.length : Int) == 1))) else (some false))) else (some false))))) else (some false))))) = some r := by first | (rw [hy145]; with_reducible exact H) | (have H2_ := (Option.bind_some _ _).symm.trans H; rw [hy145]; with_reducible exact H2_) | (have H2_ := (Option.bind_some _ _).symm.trans H; with_reducible exact H2_) | with_reducible exact H | (rw [hy145]; exact H) | exact H
  have Ny145 := Aside0.mk hy145
  clear hy145
  obtain ⟨y148, hy148⟩ : ∃ y_ : List Int, y_ = (([2] : List Int)) := ⟨_, rfl⟩
  replace H : ((pairs_Good.f k y145 y148 (([(⟨0, 0⟩ : S24)] : List (S24)))).bind fun t154 => (if t154 = true then (some false) else ((pairs_Less.f k ([] : List (S24)) y135).bind fun t155 => (if t155 = true then ((pairs_Less.f k y135 ([] : List (S24))).bind fun t156 => (if t156 = true then (some false) else ((pairs_Turn.f k y135).bind fun t157 => (if (t157.length : Int) = 1 then ((pairs_Move.f k y135 1 1).bind fun t160 => (if (t160.length : Int) = 1 then ((pairs_Values.f k (([5] : List Int)) y135).bind fun t166 => (some ((t166.length : Int) == 1))) else (some false))) else (some false))))) else (some false))))) = some r := by first | (rw [hy148]; with_reducible exact H) | (have H2_ := (Option.bind_some _ _).symm.trans H; rw [hy148]; with_reducible exact H2_) | (have H2_ := (Option.bind_some _ _).symm.trans H; with_reducible exact H2_) | with_reducible exact H | (rw [hy148]; exact H) | exact H
  have Ny148 := Aside0.mk hy148
  clear hy148
  obtain ⟨y151, hy151⟩ : ∃ y_ : List (S24), y_ = (([(⟨0, 0⟩ : S24)] : List (S24))) := ⟨_, rfl⟩
  replace H : ((pairs_Good.f k y145 y148 y151).bind fun t154 => (if t154 = true then (some false) else ((pairs_Less.f k ([] : List (S24)) y135).bind fun t155 => (if t155 = true then ((pairs_Less.f k y135 ([] : List (S24))).bind fun t156 => (if t156 = true then (some false) else ((pairs_Turn.f k y135).bind fun t157 => (if (t157.length : Int) = 1 then ((pairs_Move.f k y135 1 1).bind fun t160 => (if (t160.length : Int) = 1 then ((pairs_Values.f k (([5] : List Int)) y135).bind fun t166 => (some ((t166.length : Int) == 1))) else (some false))) else (some false))))) else (some false))))) = some r := by first | (rw [hy151]; with_reducible exact H) | (have H2_ := (Option.bind_some _ _).symm.trans H; rw [hy151]; with_reducible exact H2_) | (have H2_ := (Option.bind_some _ _).symm.trans H; with_reducible exact H2_) | with_reducible exact H | (rw [hy151]; exact H) | exact H
  have Ny151 := Aside0.mk hy151
  clear hy151
  replace H := Option.bind_eq_some_iff.mp H
  obtain ⟨t154, A30, H⟩ := H
  replace H : (if t154 = true then (some false) else ((pairs_Less.f k ([] : List (S24)) y135).bind fun t155 => (if t155 = true then ((pairs_Less.f k y135 ([] : List (S24))).bind fun t156 => (if t156 = true then (some false) else ((pairs_Turn.f k y135).bind fun t157 => (if (t157.length : Int) = 1 then ((pairs_Move.f k y135 1 1).bind fun t160 => (if (t160.length : Int) = 1 then ((pairs_Values.f k (([5] : List Int)) y135).bind fun t166 => (some ((t166.length : Int) == 1))) else (some false))) else (some false))))) else (some false)))) = some r := H
  have A3 := Aside0.mk A30
  clear A30
  by_cases c4 : t154 = true
  ·subst c4
   have H1 : (some false) = some r := by rw [if_pos rfl] at H; exact H
   clear H
   have H := H1
   clear H1
   exact absurd (Option.some.inj H) (by rw [hr_]; decide)
  ·replace c4 := Bool.eq_false_iff.mpr c4
   subst c4
   have H1 : ((pairs_Less.f k ([] : List (S24)) y135).bind fun t155 => (if t155 = true then ((pairs_Less.f k y135 ([] : List (S24))).bind fun t156 => (if t156 = true then (some false) else ((pairs_Turn.f k y135).bind fun t157 => (if (t157.length : Int) = 1 then ((pairs_Move.f k y135 1 1).bind fun t160 => (if (t160.length : Int) = 1 then ((pairs_Values.f k (([5] : List Int)) y135).bind fun t166 => (some ((t166.length : Int) == 1))) else (some false))) else (some false))))) else (some false))) = some r := by rw [if_neg (show ¬ (false = true) by decide)] at H; exact H
   clear H
   have H := H1
   clear H1
   replace H := Option.bind_eq_some_iff.mp H
   obtain ⟨t155, A50, H⟩ := H
   replace H : (if t155 = true then ((pairs_Less.f k y135 ([] : List (S24))).bind fun t156 => (if t156 = true then (some false) else ((pairs_Turn.f k y135).bind fun t157 => (if (t157.length : Int) = 1 then ((pairs_Move.f k y135 1 1).bind fun t160 => (if (t160.length : Int) = 1 then ((pairs_Values.f k (([5] : List Int)) y135).bind fun t166 => (some ((t166.length : Int) == 1))) else (some false))) else (some false))))) else (some false)) = some r := H
   have A5 := Aside0.mk A50
   clear A50
   by_cases c6 : t155 = true
   ·subst c6
    have H1 : ((pairs_Less.f k y135 ([] : List (S24))).bind fun t156 => (if t156 = true then (some false) else ((pairs_Turn.f k y135).bind fun t157 => (if (t157.length : Int) = 1 then ((pairs_Move.f k y135 1 1).bind fun t160 => (if (t160.length : Int) = 1 then ((pairs_Values.f k (([5] : List Int)) y135).bind fun t166 => (some ((t166.length : Int) == 1))) else (some false))) else (some false))))) = some r := by rw [if_pos rfl] at H; exact H
    clear H
    have H := H1
    clear H1
    replace H := Option.bind_eq_some_iff.mp H
    obtain ⟨t156, A70, H⟩ := H
    replace H : (if t156 = true then (some false) else ((pairs_Turn.f k y135).bind fun t157 => (if (t157.length : Int) = 1 then ((pairs_Move.f k y135 1 1).bind fun t160 => (if (t160.length : Int) = 1 then ((pairs_Values.f k (([5] : List Int)) y135).bind fun t166 => (some ((t166.length : Int) == 1))) else (some false))) else (some false)))) = some r := H
    have A7 := Aside0.mk A70
    clear A70
    by_cases c8 : t156 = true
    ·subst c8
     have H1 : (some false) = some r := by rw [if_pos rfl] at H; exact H
     clear H
     have H := H1
     clear H1
     exact absurd (Option.some.inj H) (by rw [hr_]; decide)
    ·replace c8 := Bool.eq_false_iff.mpr c8
     subst c8
     have H1 : ((pairs_Turn.f k y135).bind fun t157 => (if (t157.length : Int) = 1 then ((pairs_Move.f k y135 1 1).bind fun t160 => (if (t160.length : Int) = 1 then ((pairs_Values.f k (([5] : List Int)) y135).bind fun t166 => (some ((t166.length : Int) == 1))) else (some false))) else (some false))) = some r := by rw [if_neg (show ¬ (false = true) by decide)] at H; exact H
     clear H
     have H := H1
     clear H1
     replace H := Option.bind_eq_some_iff.mp H
     obtain ⟨t157, A90, H⟩ := H
     replace H : (if (t157.length : Int) = 1 then ((pairs_Move.f k y135 1 1).bind fun t160 => (if (t160.length : Int) = 1 then ((pairs_Values.f k (([5] : List Int)) y135).bind fun t166 => (some ((t166.length : Int) == 1))) else (some false))) else (some false)) = some r := H
     have A9 := Aside0.mk A90
     clear A90
     by_cases c10 : (t157.length : Int) = 1
     ·rw [if_pos c10] at H
      have c10b0 : ((t157.length : Int) == 1) = true := beq_iff_eq.mpr c10
      have c10b1 : ((t157.length : Int) != 1) = false := bne_eq_false_iff_eq.mpr c10
      clear c10
      replace H := Option.bind_eq_some_iff.mp H
      obtain ⟨t160, A110, H⟩ := H
      replace H : (if (t160.length : Int) = 1 then ((pairs_Values.f k (([5] : List Int)) y135).bind fun t166 => (some ((t166.length : Int) == 1))) else (some false)) = some r := H
      have A11 := Aside0.mk A110
      clear A110
      by_cases c12 : (t160.length : Int) = 1
      ·rw [if_pos c12] at H
       have c12b0 : ((t160.length : Int) == 1) = true := beq_iff_eq.mpr c12
       have c12b1 : ((t160.length : Int) != 1) = false := bne_eq_false_iff_eq.mpr c12
       clear c12
       obtain ⟨y163, hy163⟩ : ∃ y_ : List Int, y_ = (([5] : List Int)) := ⟨_, rfl⟩
       replace H : ((pairs_Values.f k y163 y135).bind fun t166 => (some ((t166.length : Int) == 1))) = some r := by first | (rw [hy163]; with_reducible exact H) | (have H2_ := (Option.bind_some _ _).symm.trans H; rw [hy163]; with_reducible exact H2_) | (have H2_ := (Option.bind_some _ _).symm.trans H; with_reducible exact H2_) | with_reducible exact H | (rw [hy163]; exact H) | exact H
       have Ny163 := Aside0.mk hy163
       clear hy163
       replace H := Option.bind_eq_some_iff.mp H
       obtain ⟨t166, A130, H⟩ := H
       replace H : (some ((t166.length : Int) == 1)) = some r := H
       have A13 := Aside0.mk A130
       clear A130
       obtain rfl := Option.some.inj H
       go_enter Try.func13, Try.ntmps13
       go_wp2_with (first | ((with_reducible refine gate_dst (N := 3) rfl ?_); (try (refine gate_guard (by rfl) ?_; dsimp only)); refine Kd.R_lit k24 _ 24 ?hg (N := 3) ?hd (xs := ([(⟨0, 1⟩ : S24)] : List (S24))) (inner := [.int .i64 0, .int .i64 1]) (ok := fun _ => True) (okp := fun _ => True) ?hr ?hp (fun _ hk => hk) trivial (Below.refl _ _) (Nat.le_refl _) (by simp) ?_; (case hd => rfl); (case hg => rfl); (case hr => first | (go_simp; done) | (go_simp; rfl)); (case hp => exact (Reps.c2 (show Kd.M k24 _ _ _ (⟨0, 1⟩ : S24) [.int .i64 0, .int .i64 1] from (k24_mkM _ _ _ (⟨0, 1⟩ : S24) )) (Reps.none _ _))); intro v136 w14 ho15 hb hg_ hnew_; (try clear hg_); (try clear hnew_); (first | rw [← Ny135.out] at ho15 | (simp only [Int.reduceToNat] at ho15; rw [← Ny135.out] at ho15)); have n0_ := Aside0.mk (Kd.R_lower ho15 (below_size (by repeat (first | (with_reducible first | exact HB.out | apply below_alloc | apply pw_below_drewN | apply below_drew1) | exact HB.out)))); have n1_ := Aside0.mk (below_step (by repeat (first | (with_reducible first | exact HB.out | apply below_alloc | apply pw_below_drewN | apply below_drew1) | exact HB.out)) hb); clear HB; have HO137 := n0_; have HB := n1_; clear n0_ n1_; (try clear hb); (try clear ho15)) | ((with_reducible refine gate_dst (N := 4) rfl ?_); (try (refine gate_guard (by rfl) ?_; dsimp only)); refine Kd.R_lit (Kd.int .i64) _ 3 ?hg (N := 4) ?hd (xs := ([1, 2] : List Int)) (inner := [.int .i64 1, .int .i64 2]) (ok := fun _ => True) (okp := fun _ => True) ?hr ?hp (fun _ hk => hk) trivial (Below.refl _ _) (Nat.le_refl _) (by simp) ?_; (case hd => rfl); (case hg => rfl); (case hr => first | (go_simp; done) | (go_simp; rfl)); (case hp => exact (Reps.one (show Kd.M (Kd.int .i64) _ _ _ 1 [.int .i64 1] from rfl) (Reps.one (show Kd.M (Kd.int .i64) _ _ _ 2 [.int .i64 2] from rfl) (Reps.none _ _)))); intro v139 w16 ho17 hb hg_ hnew_; (try clear hg_); (try clear hnew_); (first | rw [← Ny138.out] at ho17 | (simp only [Int.reduceToNat] at ho17; rw [← Ny138.out] at ho17)); have n0_ := Aside0.mk (Kd.R_below (by (with_reducible repeat (first | apply Kd.R_alloc | apply Kd.R_drewN | apply Kd.R_drew)); exact HO137.out) hb); have n1_ := Aside0.mk (Kd.R_lower ho17 (below_size (by repeat (first | (with_reducible first | exact HB.out | apply below_alloc | apply pw_below_drewN | apply below_drew1) | exact HB.out)))); have n2_ := Aside0.mk (below_step (by repeat (first | (with_reducible first | exact HB.out | apply below_alloc | apply pw_below_drewN | apply below_drew1) | exact HB.out)) hb); clear HO137; clear HB; have HO137 := n0_; have HO140 := n1_; have HB := n2_; clear n0_ n1_ n2_; (try clear hb); (try clear ho17)) | ((with_reducible refine gate_dst (N := 5) rfl ?_); (try (refine gate_guard (by rfl) ?_; dsimp only)); refine Kd.R_lit (Kd.int .i64) _ 3 ?hg (N := 5) ?hd (xs := ([2, 1] : List Int)) (inner := [.int .i64 2, .int .i64 1]) (ok := fun _ => True) (okp := fun _ => True) ?hr ?hp (fun _ hk => hk) trivial (Below.refl _ _) (Nat.le_refl _) (by simp) ?_; (case hd => rfl); (case hg => rfl); (case hr => first | (go_simp; done) | (go_simp; rfl)); (case hp => exact (Reps.one (show Kd.M (Kd.int .i64) _ _ _ 2 [.int .i64 2] from rfl) (Reps.one (show Kd.M (Kd.int .i64) _ _ _ 1 [.int .i64 1] from rfl) (Reps.none _ _)))); intro v142 w18 ho19 hb hg_ hnew_; (try clear hg_); (try clear hnew_); (first | rw [← Ny141.out] at ho19 | (simp only [Int.reduceToNat] at ho19; rw [← Ny141.out] at ho19)); have n0_ := Aside0.mk (Kd.R_below (by (with_reducible repeat (first | apply Kd.R_alloc | apply Kd.R_drewN | apply Kd.R_drew)); exact HO137.out) hb); have n1_ := Aside0.mk (Kd.R_elder' (by (with_reducible repeat (first | apply Kd.R_alloc | apply Kd.R_drewN | apply Kd.R_drew)); exact HO140.out) (Kd.R_base ho19) hb); have n2_ := Aside0.mk (Kd.R_lower (Kd.R_new' ho19 (Kd.R_lt (by (with_reducible repeat (first | apply Kd.R_alloc | apply Kd.R_drewN | apply Kd.R_drew)); exact HO140.out))) (below_size (by repeat (first | (with_reducible first | exact HB.out | apply below_alloc | apply pw_below_drewN | apply below_drew1) | exact HB.out)))); have n3_ := Aside0.mk (below_step (by repeat (first | (with_reducible first | exact HB.out | apply below_alloc | apply pw_below_drewN | apply below_drew1) | exact HB.out)) hb); clear HO137; clear HO140; clear HB; have HO137 := n0_; have HO140 := n1_; have HO143 := n2_; have HB := n3_; clear n0_ n1_ n2_ n3_; (try clear hb); (try clear ho19); obtain ⟨Ao20, co20, eo20⟩ := Kd.R_slice HO140.out; subst eo20; obtain ⟨Ao21, co21, eo21⟩ := Kd.R_slice HO143.out; subst eo21; obtain ⟨Ao22, co22, eo22⟩ := Kd.R_slice HO137.out; subst eo22) | ((first | (with_reducible refine gate_callee (f := 14) rfl ?_); refine goesL_ (some 7) rfl rfl Try.func14 (by kernel_rfl) rfl #[.slice Ao20 y138.length co20, .slice Ao21 y141.length co21, .slice Ao22 y135.length co22] rfl (by (try simp only [List.map_toArray, List.map_cons, List.map_nil]); first | done | rfl | (simp only [List.length_drop, List.length_take]; rfl)) ?_ | go_at_call 14); (with_reducible refine (pairs_Good.calls k _ _ y138 _ _ y141 _ _ y135 true _ ?side1 ?side2 ?side3 ?side4 ?side5 ?side6 A1.out).mono ?_); (case side1 => repeat (first | exact (Kd.R_reads' HO140.out).2.2 | (with_reducible refine Kd.C_alloc ?_ _) | (with_reducible refine Kd.C_drewN ?_ _) | (with_reducible refine Kd.C_drew ?_))); (case side2 => exact (Kd.R_reads' HO140.out).2.1); (case side3 => repeat (first | exact (Kd.R_reads' HO143.out).2.2 | (with_reducible refine Kd.C_alloc ?_ _) | (with_reducible refine Kd.C_drewN ?_ _) | (with_reducible refine Kd.C_drew ?_))); (case side4 => exact (Kd.R_reads' HO143.out).2.1); (case side5 => repeat (first | exact (Kd.R_reads' HO137.out).2.2 | (with_reducible refine Kd.C_alloc ?_ _) | (with_reducible refine Kd.C_drewN ?_ _) | (with_reducible refine Kd.C_drew ?_))); (case side6 => exact (Kd.R_reads' HO137.out).2.1); rintro e w23 ⟨rfl, hb⟩; (try refine ⟨_, rfl, ?_⟩); have n0_ := Aside0.mk (Kd.R_below (by (with_reducible repeat (first | apply Kd.R_alloc | apply Kd.R_drewN | apply Kd.R_drew)); exact HO137.out) hb); have n1_ := Aside0.mk (Kd.R_below (by (with_reducible repeat (first | apply Kd.R_alloc | apply Kd.R_drewN | apply Kd.R_drew)); exact HO140.out) hb); have n2_ := Aside0.mk (Kd.R_below (by (with_reducible repeat (first | apply Kd.R_alloc | apply Kd.R_drewN | apply Kd.R_drew)); exact HO143.out) hb); have n3_ := Aside0.mk (below_step (by repeat (first | (with_reducible first | exact HB.out | apply below_alloc | apply pw_below_drewN | apply below_drew1) | exact HB.out)) hb); clear HO137; clear HO140; clear HO143; clear HB; have HO137 := n0_; have HO140 := n1_; have HO143 := n2_; have HB := n3_; clear n0_ n1_ n2_ n3_; (try clear hb); (try clear hb2); (try clear hk); (try clear hi)) | ((with_reducible refine gate_dst (N := 9) rfl ?_); (try (refine gate_guard (by rfl) ?_; dsimp only)); refine Kd.R_lit (Kd.int .i64) _ 3 ?hg (N := 9) ?hd (xs := ([1] : List Int)) (inner := [.int .i64 1]) (ok := fun _ => True) (okp := fun _ => True) ?hr ?hp (fun _ hk => hk) trivial (Below.refl _ _) (Nat.le_refl _) (by simp) ?_; (case hd => rfl); (case hg => rfl); (case hr => first | (go_simp; done) | (go_simp; rfl)); (case hp => exact (Reps.one (show Kd.M (Kd.int .i64) _ _ _ 1 [.int .i64 1] from rfl) (Reps.none _ _))); intro v146 w24 ho25 hb hg_ hnew_; (try clear hg_); (try clear hnew_); (first | rw [← Ny145.out] at ho25 | (simp only [Int.reduceToNat] at ho25; rw [← Ny145.out] at ho25)); have n0_ := Aside0.mk (Kd.R_below (by (with_reducible repeat (first | apply Kd.R_alloc | apply Kd.R_drewN | apply Kd.R_drew)); exact HO137.out) hb); have n1_ := Aside0.mk (Kd.R_elder' (by (with_reducible repeat (first | apply Kd.R_alloc | apply Kd.R_drewN | apply Kd.R_drew)); exact HO140.out) (Kd.R_base ho25) hb); have n2_ := Aside0.mk (Kd.R_elder' (by (with_reducible repeat (first | apply Kd.R_alloc | apply Kd.R_drewN | apply Kd.R_drew)); exact HO143.out) (Kd.R_base ho25) hb); have n3_ := Aside0.mk (Kd.R_lower (Kd.R_new' (Kd.R_new' ho25 (Kd.R_lt (by (with_reducible repeat (first | apply Kd.R_alloc | apply Kd.R_drewN | apply Kd.R_drew)); exact HO140.out))) (Kd.R_lt (by (with_reducible repeat (first | apply Kd.R_alloc | apply Kd.R_drewN | apply Kd.R_drew)); exact HO143.out))) (below_size (by repeat (first | (with_reducible first | exact HB.out | apply below_alloc | apply pw_below_drewN | apply below_drew1) | exact HB.out)))); have n4_ := Aside0.mk (below_step (by repeat (first | (with_reducible first | exact HB.out | apply below_alloc | apply pw_below_drewN | apply below_drew1) | exact HB.out)) hb); clear HO137; clear HO140; clear HO143; clear HB; have HO137 := n0_; have HO140 := n1_; have HO143 := n2_; have HO147 := n3_; have HB := n4_; clear n0_ n1_ n2_ n3_ n4_; (try clear hb); (try clear ho25)) | ((with_reducible refine gate_dst (N := 10) rfl ?_); (try (refine gate_guard (by rfl) ?_; dsimp only)); refine Kd.R_lit (Kd.int .i64) _ 3 ?hg (N := 10) ?hd (xs := ([2] : List Int)) (inner := [.int .i64 2]) (ok := fun _ => True) (okp := fun _ => True) ?hr ?hp (fun _ hk => hk) trivial (Below.refl _ _) (Nat.le_refl _) (by simp) ?_; (case hd => rfl); (case hg => rfl); (case hr => first | (go_simp; done) | (go_simp; rfl)); (case hp => exact (Reps.one (show Kd.M (Kd.int .i64) _ _ _ 2 [.int .i64 2] from rfl) (Reps.none _ _))); intro v149 w26 ho27 hb hg_ hnew_; (try clear hg_); (try clear hnew_); (first | rw [← Ny148.out] at ho27 | (simp only [Int.reduceToNat] at ho27; rw [← Ny148.out] at ho27)); have n0_ := Aside0.mk (Kd.R_below (by (with_reducible repeat (first | apply Kd.R_alloc | apply Kd.R_drewN | apply Kd.R_drew)); exact HO137.out) hb); have n1_ := Aside0.mk (Kd.R_elder' (by (with_reducible repeat (first | apply Kd.R_alloc | apply Kd.R_drewN | apply Kd.R_drew)); exact HO140.out) (Kd.R_base ho27) hb); have n2_ := Aside0.mk (Kd.R_elder' (by (with_reducible repeat (first | apply Kd.R_alloc | apply Kd.R_drewN | apply Kd.R_drew)); exact HO143.out) (Kd.R_base ho27) hb); have n3_ := Aside0.mk (Kd.R_elder' (by (with_reducible repeat (first | apply Kd.R_alloc | apply Kd.R_drewN | apply Kd.R_drew)); exact HO147.out) (Kd.R_base ho27) hb); have n4_ := Aside0.mk (Kd.R_lower (Kd.R_new' (Kd.R_new' (Kd.R_new' ho27 (Kd.R_lt (by (with_reducible repeat (first | apply Kd.R_alloc | apply Kd.R_drewN | apply Kd.R_drew)); exact HO140.out))) (Kd.R_lt (by (with_reducible repeat (first | apply Kd.R_alloc | apply Kd.R_drewN | apply Kd.R_drew)); exact HO143.out))) (Kd.R_lt (by (with_reducible repeat (first | apply Kd.R_alloc | apply Kd.R_drewN | apply Kd.R_drew)); exact HO147.out))) (below_size (by repeat (first | (with_reducible first | exact HB.out | apply below_alloc | apply pw_below_drewN | apply below_drew1) | exact HB.out)))); have n5_ := Aside0.mk (below_step (by repeat (first | (with_reducible first | exact HB.out | apply below_alloc | apply pw_below_drewN | apply below_drew1) | exact HB.out)) hb); clear HO137; clear HO140; clear HO143; clear HO147; clear HB; have HO137 := n0_; have HO140 := n1_; have HO143 := n2_; have HO147 := n3_; have HO150 := n4_; have HB := n5_; clear n0_ n1_ n2_ n3_ n4_ n5_; (try clear hb); (try clear ho27)) | ((with_reducible refine gate_dst (N := 12) rfl ?_); (try (refine gate_guard (by rfl) ?_; dsimp only)); refine Kd.R_lit k24 _ 24 ?hg (N := 12) ?hd (xs := ([(⟨0, 0⟩ : S24)] : List (S24))) (inner := [.int .i64 0, .int .i64 0]) (ok := fun _ => True) (okp := fun _ => True) ?hr ?hp (fun _ hk => hk) trivial (Below.refl _ _) (Nat.le_refl _) (by simp) ?_; (case hd => rfl); (case hg => rfl); (case hr => first | (go_simp; done) | (go_simp; rfl)); (case hp => exact (Reps.c2 (show Kd.M k24 _ _ _ (⟨0, 0⟩ : S24) [.int .i64 0, .int .i64 0] from (k24_mkM _ _ _ (⟨0, 0⟩ : S24) )) (Reps.none _ _))); intro v152 w28 ho29 hb hg_ hnew_; (try clear hg_); (try clear hnew_); (first | rw [← Ny151.out] at ho29 | (simp only [Int.reduceToNat] at ho29; rw [← Ny151.out] at ho29)); have n0_ := Aside0.mk (Kd.R_elder' (by (with_reducible repeat (first | apply Kd.R_alloc | apply Kd.R_drewN | apply Kd.R_drew)); exact HO137.out) (Kd.R_base ho29) hb); have n1_ := Aside0.mk (Kd.R_below (by (with_reducible repeat (first | apply Kd.R_alloc | apply Kd.R_drewN | apply Kd.R_drew)); exact HO140.out) hb); have n2_ := Aside0.mk (Kd.R_below (by (with_reducible repeat (first | apply Kd.R_alloc | apply Kd.R_drewN | apply Kd.R_drew)); exact HO143.out) hb); have n3_ := Aside0.mk (Kd.R_below (by (with_reducible repeat (first | apply Kd.R_alloc | apply Kd.R_drewN | apply Kd.R_drew)); exact HO147.out) hb); have n4_ := Aside0.mk (Kd.R_below (by (with_reducible repeat (first | apply Kd.R_alloc | apply Kd.R_drewN | apply Kd.R_drew)); exact HO150.out) hb); have n5_ := Aside0.mk (Kd.R_lower (Kd.R_new' ho29 (Kd.R_lt (by (with_reducible repeat (first | apply Kd.R_alloc | apply Kd.R_drewN | apply Kd.R_drew)); exact HO137.out))) (below_size (by repeat (first | (with_reducible first | exact HB.out | apply below_alloc | apply pw_below_drewN | apply below_drew1) | exact HB.out)))); have n6_ := Aside0.mk (below_step (by repeat (first | (with_reducible first | exact HB.out | apply below_alloc | apply pw_below_drewN | apply below_drew1) | exact HB.out)) hb); clear HO137; clear HO140; clear HO143; clear HO147; clear HO150; clear HB; have HO137 := n0_; have HO140 := n1_; have HO143 := n2_; have HO147 := n3_; have HO150 := n4_; have HO153 := n5_; have HB := n6_; clear n0_ n1_ n2_ n3_ n4_ n5_ n6_; (try clear hb); (try clear ho29); obtain ⟨Ao30, co30, eo30⟩ := Kd.R_slice HO147.out; subst eo30; obtain ⟨Ao31, co31, eo31⟩ := Kd.R_slice HO150.out; subst eo31; obtain ⟨Ao32, co32, eo32⟩ := Kd.R_slice HO153.out; subst eo32) | (go_at_call 14; (with_reducible refine (pairs_Good.calls k _ _ y145 _ _ y148 _ _ y151 false _ ?side1 ?side2 ?side3 ?side4 ?side5 ?side6 A3.out).mono ?_); (case side1 => repeat (first | exact (Kd.R_reads' HO147.out).2.2 | (with_reducible refine Kd.C_alloc ?_ _) | (with_reducible refine Kd.C_drewN ?_ _) | (with_reducible refine Kd.C_drew ?_))); (case side2 => exact (Kd.R_reads' HO147.out).2.1); (case side3 => repeat (first | exact (Kd.R_reads' HO150.out).2.2 | (with_reducible refine Kd.C_alloc ?_ _) | (with_reducible refine Kd.C_drewN ?_ _) | (with_reducible refine Kd.C_drew ?_))); (case side4 => exact (Kd.R_reads' HO150.out).2.1); (case side5 => repeat (first | exact (Kd.R_reads' HO153.out).2.2 | (with_reducible refine Kd.C_alloc ?_ _) | (with_reducible refine Kd.C_drewN ?_ _) | (with_reducible refine Kd.C_drew ?_))); (case side6 => exact (Kd.R_reads' HO153.out).2.1); rintro e w33 ⟨rfl, hb⟩; have n0_ := Aside0.mk (Kd.R_below (by (with_reducible repeat (first | apply Kd.R_alloc | apply Kd.R_drewN | apply Kd.R_drew)); exact HO137.out) hb); have n1_ := Aside0.mk (Kd.R_below (by (with_reducible repeat (first | apply Kd.R_alloc | apply Kd.R_drewN | apply Kd.R_drew)); exact HO140.out) hb); have n2_ := Aside0.mk (Kd.R_below (by (with_reducible repeat (first | apply Kd.R_alloc | apply Kd.R_drewN | apply Kd.R_drew)); exact HO143.out) hb); have n3_ := Aside0.mk (Kd.R_below (by (with_reducible repeat (first | apply Kd.R_alloc | apply Kd.R_drewN | apply Kd.R_drew)); exact HO147.out) hb); have n4_ := Aside0.mk (Kd.R_below (by (with_reducible repeat (first | apply Kd.R_alloc | apply Kd.R_drewN | apply Kd.R_drew)); exact HO150.out) hb); have n5_ := Aside0.mk (Kd.R_below (by (with_reducible repeat (first | apply Kd.R_alloc | apply Kd.R_drewN | apply Kd.R_drew)); exact HO153.out) hb); have n6_ := Aside0.mk (below_step (by repeat (first | (with_reducible first | exact HB.out | apply below_alloc | apply pw_below_drewN | apply below_drew1) | exact HB.out)) hb); clear HO137; clear HO140; clear HO143; clear HO147; clear HO150; clear HO153; clear HB; have HO137 := n0_; have HO140 := n1_; have HO143 := n2_; have HO147 := n3_; have HO150 := n4_; have HO153 := n5_; have HB := n6_; clear n0_ n1_ n2_ n3_ n4_ n5_ n6_; (try clear hb); (try clear hb2); (try clear hk); (try clear hi)) | (go_at_call 15; refine calls_of_args (args' := #[.slice none (([] : List (S24))).length 0, .slice Ao22 y135.length co22]) (by rfl) ?_; (with_reducible refine (pairs_Less.calls k none 0 ([] : List (S24)) _ _ y135 true _ ?side1 ?side2 ?side3 ?side4 A5.out).mono ?_); (case side1 => exact Kd.C_nil _ _); (case side2 => exact Nat.le_refl _); (case side3 => repeat (first | exact (Kd.R_reads' HO137.out).2.2 | (with_reducible refine Kd.C_alloc ?_ _) | (with_reducible refine Kd.C_drewN ?_ _) | (with_reducible refine Kd.C_drew ?_))); (case side4 => exact (Kd.R_reads' HO137.out).2.1); rintro e w34 ⟨rfl, hb⟩; have n0_ := Aside0.mk (Kd.R_below (by (with_reducible repeat (first | apply Kd.R_alloc | apply Kd.R_drewN | apply Kd.R_drew)); exact HO137.out) hb); have n1_ := Aside0.mk (Kd.R_below (by (with_reducible repeat (first | apply Kd.R_alloc | apply Kd.R_drewN | apply Kd.R_drew)); exact HO140.out) hb); have n2_ := Aside0.mk (Kd.R_below (by (with_reducible repeat (first | apply Kd.R_alloc | apply Kd.R_drewN | apply Kd.R_drew)); exact HO143.out) hb); have n3_ := Aside0.mk (Kd.R_below (by (with_reducible repeat (first | apply Kd.R_alloc | apply Kd.R_drewN | apply Kd.R_drew)); exact HO147.out) hb); have n4_ := Aside0.mk (Kd.R_below (by (with_reducible repeat (first | apply Kd.R_alloc | apply Kd.R_drewN | apply Kd.R_drew)); exact HO150.out) hb); have n5_ := Aside0.mk (Kd.R_below (by (with_reducible repeat (first | apply Kd.R_alloc | apply Kd.R_drewN | apply Kd.R_drew)); exact HO153.out) hb); have n6_ := Aside0.mk (below_step (by repeat (first | (with_reducible first | exact HB.out | apply below_alloc | apply pw_below_drewN | apply below_drew1) | exact HB.out)) hb); clear HO137; clear HO140; clear HO143; clear HO147; clear HO150; clear HO153; clear HB; have HO137 := n0_; have HO140 := n1_; have HO143 := n2_; have HO147 := n3_; have HO150 := n4_; have HO153 := n5_; have HB := n6_; clear n0_ n1_ n2_ n3_ n4_ n5_ n6_; (try clear hb); (try clear hb2); (try clear hk); (try clear hi)) | (go_at_call 15; refine calls_of_args (args' := #[.slice Ao22 y135.length co22, .slice none (([] : List (S24))).length 0]) (by rfl) ?_; (with_reducible refine (pairs_Less.calls k _ _ y135 none 0 ([] : List (S24)) false _ ?side1 ?side2 ?side3 ?side4 A7.out).mono ?_); (case side1 => repeat (first | exact (Kd.R_reads' HO137.out).2.2 | (with_reducible refine Kd.C_alloc ?_ _) | (with_reducible refine Kd.C_drewN ?_ _) | (with_reducible refine Kd.C_drew ?_))); (case side2 => exact (Kd.R_reads' HO137.out).2.1); (case side3 => exact Kd.C_nil _ _); (case side4 => exact Nat.le_refl _); rintro e w35 ⟨rfl, hb⟩; have n0_ := Aside0.mk (Kd.R_below (by (with_reducible repeat (first | apply Kd.R_alloc | apply Kd.R_drewN | apply Kd.R_drew)); exact HO137.out) hb); have n1_ := Aside0.mk (Kd.R_below (by (with_reducible repeat (first | apply Kd.R_alloc | apply Kd.R_drewN | apply Kd.R_drew)); exact HO140.out) hb); have n2_ := Aside0.mk (Kd.R_below (by (with_reducible repeat (first | apply Kd.R_alloc | apply Kd.R_drewN | apply Kd.R_drew)); exact HO143.out) hb); have n3_ := Aside0.mk (Kd.R_below (by (with_reducible repeat (first | apply Kd.R_alloc | apply Kd.R_drewN | apply Kd.R_drew)); exact HO147.out) hb); have n4_ := Aside0.mk (Kd.R_below (by (with_reducible repeat (first | apply Kd.R_alloc | apply Kd.R_drewN | apply Kd.R_drew)); exact HO150.out) hb); have n5_ := Aside0.mk (Kd.R_below (by (with_reducible repeat (first | apply Kd.R_alloc | apply Kd.R_drewN | apply Kd.R_drew)); exact HO153.out) hb); have n6_ := Aside0.mk (below_step (by repeat (first | (with_reducible first | exact HB.out | apply below_alloc | apply pw_below_drewN | apply below_drew1) | exact HB.out)) hb); clear HO137; clear HO140; clear HO143; clear HO147; clear HO150; clear HO153; clear HB; have HO137 := n0_; have HO140 := n1_; have HO143 := n2_; have HO147 := n3_; have HO150 := n4_; have HO153 := n5_; have HB := n6_; clear n0_ n1_ n2_ n3_ n4_ n5_ n6_; (try clear hb); (try clear hb2); (try clear hk); (try clear hi)) | (go_at_call 11; (with_reducible refine (pairs_Turn.calls k _ _ y135 t157 _ ?side1 ?side2 A9.out).mono ?_); (case side1 => repeat (first | exact (Kd.R_reads' HO137.out).2.2 | (with_reducible refine Kd.C_alloc ?_ _) | (with_reducible refine Kd.C_drewN ?_ _) | (with_reducible refine Kd.C_drew ?_))); (case side2 => exact (Kd.R_reads' HO137.out).2.1); rintro e w36 ⟨v158, rfl, ho0, hb⟩; have n0_ := Aside0.mk (Kd.R_elder' (by (with_reducible repeat (first | apply Kd.R_alloc | apply Kd.R_drewN | apply Kd.R_drew)); exact HO137.out) (Kd.R_base ho0) hb); have n1_ := Aside0.mk (Kd.R_below (by (with_reducible repeat (first | apply Kd.R_alloc | apply Kd.R_drewN | apply Kd.R_drew)); exact HO140.out) hb); have n2_ := Aside0.mk (Kd.R_below (by (with_reducible repeat (first | apply Kd.R_alloc | apply Kd.R_drewN | apply Kd.R_drew)); exact HO143.out) hb); have n3_ := Aside0.mk (Kd.R_below (by (with_reducible repeat (first | apply Kd.R_alloc | apply Kd.R_drewN | apply Kd.R_drew)); exact HO147.out) hb); have n4_ := Aside0.mk (Kd.R_below (by (with_reducible repeat (first | apply Kd.R_alloc | apply Kd.R_drewN | apply Kd.R_drew)); exact HO150.out) hb); have n5_ := Aside0.mk (Kd.R_elder' (by (with_reducible repeat (first | apply Kd.R_alloc | apply Kd.R_drewN | apply Kd.R_drew)); exact HO153.out) (Kd.R_base ho0) hb); have n6_ := Aside0.mk (Kd.R_lower (Kd.R_new' (Kd.R_new' ho0 (Kd.R_lt (by (with_reducible repeat (first | apply Kd.R_alloc | apply Kd.R_drewN | apply Kd.R_drew)); exact HO137.out))) (Kd.R_lt (by (with_reducible repeat (first | apply Kd.R_alloc | apply Kd.R_drewN | apply Kd.R_drew)); exact HO153.out))) (below_size (by repeat (first | (with_reducible first | exact HB.out | apply below_alloc | apply pw_below_drewN | apply below_drew1) | exact HB.out)))); have n7_ := Aside0.mk (below_step (by repeat (first | (with_reducible first | exact HB.out | apply below_alloc | apply pw_below_drewN | apply below_drew1) | exact HB.out)) hb); clear HO137; clear HO140; clear HO143; clear HO147; clear HO150; clear HO153; clear HB; have HO137 := n0_; have HO140 := n1_; have HO143 := n2_; have HO147 := n3_; have HO150 := n4_; have HO153 := n5_; have HO159 := n6_; have HB := n7_; clear n0_ n1_ n2_ n3_ n4_ n5_ n6_ n7_; (try clear hb); (try clear hb2); (try clear hk); (try clear hi); (try clear ho0); obtain ⟨Ao37, co37, eo37⟩ := Kd.R_slice HO159.out; subst eo37) | (go_at_call 10; (with_reducible refine (pairs_Move.calls k _ _ y135 1 1 t160 _ ?side1 ?side2 A11.out).mono ?_); (case side1 => repeat (first | exact (Kd.R_reads' HO137.out).2.2 | (with_reducible refine Kd.C_alloc ?_ _) | (with_reducible refine Kd.C_drewN ?_ _) | (with_reducible refine Kd.C_drew ?_))); (case side2 => exact (Kd.R_reads' HO137.out).2.1); rintro e w38 ⟨v161, rfl, ho0, hb⟩; have n0_ := Aside0.mk (Kd.R_elder' (by (with_reducible repeat (first | apply Kd.R_alloc | apply Kd.R_drewN | apply Kd.R_drew)); exact HO137.out) (Kd.R_base ho0) hb); have n1_ := Aside0.mk (Kd.R_below (by (with_reducible repeat (first | apply Kd.R_alloc | apply Kd.R_drewN | apply Kd.R_drew)); exact HO140.out) hb); have n2_ := Aside0.mk (Kd.R_below (by (with_reducible repeat (first | apply Kd.R_alloc | apply Kd.R_drewN | apply Kd.R_drew)); exact HO143.out) hb); have n3_ := Aside0.mk (Kd.R_below (by (with_reducible repeat (first | apply Kd.R_alloc | apply Kd.R_drewN | apply Kd.R_drew)); exact HO147.out) hb); have n4_ := Aside0.mk (Kd.R_below (by (with_reducible repeat (first | apply Kd.R_alloc | apply Kd.R_drewN | apply Kd.R_drew)); exact HO150.out) hb); have n5_ := Aside0.mk (Kd.R_elder' (by (with_reducible repeat (first | apply Kd.R_alloc | apply Kd.R_drewN | apply Kd.R_drew)); exact HO153.out) (Kd.R_base ho0) hb); have n6_ := Aside0.mk (Kd.R_elder' (by (with_reducible repeat (first | apply Kd.R_alloc | apply Kd.R_drewN | apply Kd.R_drew)); exact HO159.out) (Kd.R_base ho0) hb); have n7_ := Aside0.mk (Kd.R_lower (Kd.R_new' (Kd.R_new' (Kd.R_new' ho0 (Kd.R_lt (by (with_reducible repeat (first | apply Kd.R_alloc | apply Kd.R_drewN | apply Kd.R_drew)); exact HO137.out))) (Kd.R_lt (by (with_reducible repeat (first | apply Kd.R_alloc | apply Kd.R_drewN | apply Kd.R_drew)); exact HO153.out))) (Kd.R_lt (by (with_reducible repeat (first | apply Kd.R_alloc | apply Kd.R_drewN | apply Kd.R_drew)); exact HO159.out))) (below_size (by repeat (first | (with_reducible first | exact HB.out | apply below_alloc | apply pw_below_drewN | apply below_drew1) | exact HB.out)))); have n8_ := Aside0.mk (below_step (by repeat (first | (with_reducible first | exact HB.out | apply below_alloc | apply pw_below_drewN | apply below_drew1) | exact HB.out)) hb); clear HO137; clear HO140; clear HO143; clear HO147; clear HO150; clear HO153; clear HO159; clear HB; have HO137 := n0_; have HO140 := n1_; have HO143 := n2_; have HO147 := n3_; have HO150 := n4_; have HO153 := n5_; have HO159 := n6_; have HO162 := n7_; have HB := n8_; clear n0_ n1_ n2_ n3_ n4_ n5_ n6_ n7_ n8_; (try clear hb); (try clear hb2); (try clear hk); (try clear hi); (try clear ho0); obtain ⟨Ao39, co39, eo39⟩ := Kd.R_slice HO162.out; subst eo39) | ((with_reducible refine gate_dst (N := 38) rfl ?_); (try (refine gate_guard (by rfl) ?_; dsimp only)); refine Kd.R_lit (Kd.int .i64) _ 3 ?hg (N := 38) ?hd (xs := ([5] : List Int)) (inner := [.int .i64 5]) (ok := fun _ => True) (okp := fun _ => True) ?hr ?hp (fun _ hk => hk) trivial (Below.refl _ _) (Nat.le_refl _) (by simp) ?_; (case hd => rfl); (case hg => rfl); (case hr => first | (go_simp; done) | (go_simp; rfl)); (case hp => exact (Reps.one (show Kd.M (Kd.int .i64) _ _ _ 5 [.int .i64 5] from rfl) (Reps.none _ _))); intro v164 w40 ho41 hb hg_ hnew_; (try clear hg_); (try clear hnew_); (first | rw [← Ny163.out] at ho41 | (simp only [Int.reduceToNat] at ho41; rw [← Ny163.out] at ho41)); have n0_ := Aside0.mk (Kd.R_below (by (with_reducible repeat (first | apply Kd.R_alloc | apply Kd.R_drewN | apply Kd.R_drew)); exact HO137.out) hb); have n1_ := Aside0.mk (Kd.R_elder' (by (with_reducible repeat (first | apply Kd.R_alloc | apply Kd.R_drewN | apply Kd.R_drew)); exact HO140.out) (Kd.R_base ho41) hb); have n2_ := Aside0.mk (Kd.R_elder' (by (with_reducible repeat (first | apply Kd.R_alloc | apply Kd.R_drewN | apply Kd.R_drew)); exact HO143.out) (Kd.R_base ho41) hb); have n3_ := Aside0.mk (Kd.R_elder' (by (with_reducible repeat (first | apply Kd.R_alloc | apply Kd.R_drewN | apply Kd.R_drew)); exact HO147.out) (Kd.R_base ho41) hb); have n4_ := Aside0.mk (Kd.R_elder' (by (with_reducible repeat (first | apply Kd.R_alloc | apply Kd.R_drewN | apply Kd.R_drew)); exact HO150.out) (Kd.R_base ho41) hb); have n5_ := Aside0.mk (Kd.R_below (by (with_reducible repeat (first | apply Kd.R_alloc | apply Kd.R_drewN | apply Kd.R_drew)); exact HO153.out) hb); have n6_ := Aside0.mk (Kd.R_below (by (with_reducible repeat (first | apply Kd.R_alloc | apply Kd.R_drewN | apply Kd.R_drew)); exact HO159.out) hb); have n7_ := Aside0.mk (Kd.R_below (by (with_reducible repeat (first | apply Kd.R_alloc | apply Kd.R_drewN | apply Kd.R_drew)); exact HO162.out) hb); have n8_ := Aside0.mk (Kd.R_lower (Kd.R_new' (Kd.R_new' (Kd.R_new' (Kd.R_new' ho41 (Kd.R_lt (by (with_reducible repeat (first | apply Kd.R_alloc | apply Kd.R_drewN | apply Kd.R_drew)); exact HO140.out))) (Kd.R_lt (by (with_reducible repeat (first | apply Kd.R_alloc | apply Kd.R_drewN | apply Kd.R_drew)); exact HO143.out))) (Kd.R_lt (by (with_reducible repeat (first | apply Kd.R_alloc | apply Kd.R_drewN | apply Kd.R_drew)); exact HO147.out))) (Kd.R_lt (by (with_reducible repeat (first | apply Kd.R_alloc | apply Kd.R_drewN | apply Kd.R_drew)); exact HO150.out))) (below_size (by repeat (first | (with_reducible first | exact HB.out | apply below_alloc | apply pw_below_drewN | apply below_drew1) | exact HB.out)))); have n9_ := Aside0.mk (below_step (by repeat (first | (with_reducible first | exact HB.out | apply below_alloc | apply pw_below_drewN | apply below_drew1) | exact HB.out)) hb); clear HO137; clear HO140; clear HO143; clear HO147; clear HO150; clear HO153; clear HO159; clear HO162; clear HB; have HO137 := n0_; have HO140 := n1_; have HO143 := n2_; have HO147 := n3_; have HO150 := n4_; have HO153 := n5_; have HO159 := n6_; have HO162 := n7_; have HO165 := n8_; have HB := n9_; clear n0_ n1_ n2_ n3_ n4_ n5_ n6_ n7_ n8_ n9_; (try clear hb); (try clear ho41); obtain ⟨Ao42, co42, eo42⟩ := Kd.R_slice HO165.out; subst eo42) | (go_at_call 12; (with_reducible refine (pairs_Values.calls k _ _ y163 _ _ y135 t166 _ ?side1 ?side2 ?side3 ?side4 A13.out).mono ?_); (case side1 => repeat (first | exact (Kd.R_reads' HO165.out).2.2 | (with_reducible refine Kd.C_alloc ?_ _) | (with_reducible refine Kd.C_drewN ?_ _) | (with_reducible refine Kd.C_drew ?_))); (case side2 => exact (Kd.R_reads' HO165.out).2.1); (case side3 => repeat (first | exact (Kd.R_reads' HO137.out).2.2 | (with_reducible refine Kd.C_alloc ?_ _) | (with_reducible refine Kd.C_drewN ?_ _) | (with_reducible refine Kd.C_drew ?_))); (case side4 => exact (Kd.R_reads' HO137.out).2.1); rintro e w43 ⟨v167, rfl, ho0, hb⟩; have n0_ := Aside0.mk (Kd.R_below (by (with_reducible repeat (first | apply Kd.R_alloc | apply Kd.R_drewN | apply Kd.R_drew)); exact HO137.out) hb); have n1_ := Aside0.mk (Kd.R_elder' (by (with_reducible repeat (first | apply Kd.R_alloc | apply Kd.R_drewN | apply Kd.R_drew)); exact HO140.out) (Kd.R_base ho0) hb); have n2_ := Aside0.mk (Kd.R_elder' (by (with_reducible repeat (first | apply Kd.R_alloc | apply Kd.R_drewN | apply Kd.R_drew)); exact HO143.out) (Kd.R_base ho0) hb); have n3_ := Aside0.mk (Kd.R_elder' (by (with_reducible repeat (first | apply Kd.R_alloc | apply Kd.R_drewN | apply Kd.R_drew)); exact HO147.out) (Kd.R_base ho0) hb); have n4_ := Aside0.mk (Kd.R_elder' (by (with_reducible repeat (first | apply Kd.R_alloc | apply Kd.R_drewN | apply Kd.R_drew)); exact HO150.out) (Kd.R_base ho0) hb); have n5_ := Aside0.mk (Kd.R_below (by (with_reducible repeat (first | apply Kd.R_alloc | apply Kd.R_drewN | apply Kd.R_drew)); exact HO153.out) hb); have n6_ := Aside0.mk (Kd.R_below (by (with_reducible repeat (first | apply Kd.R_alloc | apply Kd.R_drewN | apply Kd.R_drew)); exact HO159.out) hb); have n7_ := Aside0.mk (Kd.R_below (by (with_reducible repeat (first | apply Kd.R_alloc | apply Kd.R_drewN | apply Kd.R_drew)); exact HO162.out) hb); have n8_ := Aside0.mk (Kd.R_elder' (by (with_reducible repeat (first | apply Kd.R_alloc | apply Kd.R_drewN | apply Kd.R_drew)); exact HO165.out) (Kd.R_base ho0) hb); have n9_ := Aside0.mk (Kd.R_lower (Kd.R_new' (Kd.R_new' (Kd.R_new' (Kd.R_new' (Kd.R_new' ho0 (Kd.R_lt (by (with_reducible repeat (first | apply Kd.R_alloc | apply Kd.R_drewN | apply Kd.R_drew)); exact HO140.out))) (Kd.R_lt (by (with_reducible repeat (first | apply Kd.R_alloc | apply Kd.R_drewN | apply Kd.R_drew)); exact HO143.out))) (Kd.R_lt (by (with_reducible repeat (first | apply Kd.R_alloc | apply Kd.R_drewN | apply Kd.R_drew)); exact HO147.out))) (Kd.R_lt (by (with_reducible repeat (first | apply Kd.R_alloc | apply Kd.R_drewN | apply Kd.R_drew)); exact HO150.out))) (Kd.R_lt (by (with_reducible repeat (first | apply Kd.R_alloc | apply Kd.R_drewN | apply Kd.R_drew)); exact HO165.out))) (below_size (by repeat (first | (with_reducible first | exact HB.out | apply below_alloc | apply pw_below_drewN | apply below_drew1) | exact HB.out)))); have n10_ := Aside0.mk (below_step (by repeat (first | (with_reducible first | exact HB.out | apply below_alloc | apply pw_below_drewN | apply below_drew1) | exact HB.out)) hb); clear HO137; clear HO140; clear HO143; clear HO147; clear HO150; clear HO153; clear HO159; clear HO162; clear HO165; clear HB; have HO137 := n0_; have HO140 := n1_; have HO143 := n2_; have HO147 := n3_; have HO150 := n4_; have HO153 := n5_; have HO159 := n6_; have HO162 := n7_; have HO165 := n8_; have HO168 := n9_; have HB := n10_; clear n0_ n1_ n2_ n3_ n4_ n5_ n6_ n7_ n8_ n9_ n10_; (try clear hb); (try clear hb2); (try clear hk); (try clear hi); (try clear ho0); obtain ⟨Ao44, co44, eo44⟩ := Kd.R_slice HO168.out; subst eo44))
       go_ret
       exact ⟨by first | rfl | (simp [errW_none, errW_some] <;> rfl) | (simp [*, errW_none, errW_some] <;> rfl), by repeat (first | (with_reducible first | exact HB.out | apply below_alloc | apply pw_below_drewN | apply below_drew1) | exact HB.out)⟩
      ·rw [if_neg c12] at H
       have c12b0 : ((t160.length : Int) == 1) = false := beq_eq_false_iff_ne.mpr c12
       have c12b1 : ((t160.length : Int) != 1) = true := bne_iff_ne.mpr c12
       exact absurd (Option.some.inj H) (by rw [hr_]; decide)
     ·rw [if_neg c10] at H
      have c10b0 : ((t157.length : Int) == 1) = false := beq_eq_false_iff_ne.mpr c10
      have c10b1 : ((t157.length : Int) != 1) = true := bne_iff_ne.mpr c10
      exact absurd (Option.some.inj H) (by rw [hr_]; decide)
   ·replace c6 := Bool.eq_false_iff.mpr c6
    subst c6
    have H1 : (some false) = some r := by rw [if_neg (show ¬ (false = true) by decide)] at H; exact H
    clear H
    have H := H1
    clear H1
    exact absurd (Option.some.inj H) (by rw [hr_]; decide)
 ·replace c2 := Bool.eq_false_iff.mpr c2
  subst c2
  have H1 : (some false) = some r := by rw [if_neg (show ¬ (false = true) by decide)] at H; exact H
  clear H
  have H := H1
  clear H1
  exact absurd (Option.some.inj H) (by rw [hr_]; decide)

/-! ### tattingref1_SameInts: function 16 -/
def tattingref1_SameInts.l0 : Nat → List Int → List Int → Int → Option (Bool)
 | 0, _, _, _ => none
 | k + 1, x0, x1, x5 => if x5 < (x0.length : Int) then (if 0 ≤ x5 then (if x5 < (x1.length : Int) then (if (rd x0 x5) = (rd x1 x5) then (tattingref1_SameInts.l0 k x0 x1 (wrap64 (x5 + 1))) else (some false)) else (none)) else (none)) else (some true)
def tattingref1_SameInts.f (k : Nat) (l0 : List Int) (l1 : List Int) : Option (Bool) := if (l0.length : Int) = (l1.length : Int) then (tattingref1_SameInts.l0 k l0 l1 0) else (some false)
theorem tattingref1_SameInts.mono_l : ∀ k, (∀ y0 y1 y2, LeO (tattingref1_SameInts.l0 k y0 y1 y2) (tattingref1_SameInts.l0 (k + 1) y0 y1 y2))
 | 0 => fun _ _ _ r h => by simp [tattingref1_SameInts.l0] at h
 | k + 1 => by
  have ih0 := tattingref1_SameInts.mono_l k
  ·intro y0 y1 y2
   unfold tattingref1_SameInts.l0
   repeat' first
   | (with_reducible exact ih0 _ _ _)
   | (with_reducible exact LeO.refl _)
   | (with_reducible exact LeO.none _)
   | (with_reducible refine LeO.ite ?_ ?_)
   | (with_reducible refine LeO.bind ?_ (fun _ => ?_))
   | exact ih0 _ _ _
   | exact LeO.none _
   | refine LeO.ite ?_ ?_
   | refine LeO.bind ?_ (fun _ => ?_)
theorem tattingref1_SameInts.mono : ∀ a0 a1 k, LeO (tattingref1_SameInts.f k a0 a1) (tattingref1_SameInts.f (k + 1) a0 a1) := by
 intro a0 a1 k
 have ih0 := tattingref1_SameInts.mono_l k
 unfold tattingref1_SameInts.f
 repeat' first
   | (with_reducible exact ih0 _ _ _)
   | (with_reducible exact LeO.refl _)
   | (with_reducible exact LeO.none _)
   | (with_reducible refine LeO.ite ?_ ?_)
   | (with_reducible refine LeO.bind ?_ (fun _ => ?_))
   | exact ih0 _ _ _
   | exact LeO.none _
   | refine LeO.ite ?_ ?_
   | refine LeO.bind ?_ (fun _ => ?_)
set_option maxHeartbeats 8000000 in
set_option maxRecDepth 100000 in
theorem tattingref1_SameInts.calls (k : Nat) (A0 : Option Addr) (c0 : Nat) (l0 : List Int) (A1 : Option Addr) (c1 : Nat) (l1 : List Int) (r : Bool) (w : World) (hr0 : Kd.C (Kd.int .i64) w A0 l0.length l0) (hc0 : l0.length ≤ c0) (hr1 : Kd.C (Kd.int .i64) w A1 l1.length l1) (hc1 : l1.length ≤ c1) (h : tattingref1_SameInts.f k l0 l1 = some r) :
  Calls Try.prog 16 #[.slice A0 l0.length c0, .slice A1 l1.length c1] w fun e w' => e = .returned (.bool r) ∧ Drawn0 w w' := by
 have HR0 := Aside0.mk hr0
 have HC0 := Aside0.mk hc0
 clear hr0 hc0
 have HR1 := Aside0.mk hr1
 have HC1 := Aside0.mk hc1
 clear hr1 hc1
 have H : (if (l0.length : Int) = (l1.length : Int) then (tattingref1_SameInts.l0 k l0 l1 0) else (some false)) = some r := h
 clear h
 by_cases c3 : (l0.length : Int) = (l1.length : Int)
 ·rw [if_pos c3] at H
  have c3b0 : ((l0.length : Int) == (l1.length : Int)) = true := beq_iff_eq.mpr c3
  have c3b1 : ((l0.length : Int) != (l1.length : Int)) = false := bne_eq_false_iff_eq.mpr c3
  have c3b2 : (l0.length == l1.length) = true := by first | simpa using c3 | (simp at c3 ⊢; omega)
  clear c3
  have H' := Aside0.mk H
  clear H
  go_enter Try.func16, Try.ntmps16
  go_wp2
  repeat (go_quiet (fail); try go_wp2)
  go_loopg [5] k (fun kq v5 w' => ∃ (x5_1 : Int), v5 = .int .i64 x5_1 ∧ Aside0 (tattingref1_SameInts.l0 kq l0 l1 x5_1 = some r) ∧ Aside0 (kq ≤ k) ∧ Drawn0 w w')
  case atStart => exact ⟨(0), (by first | rfl | (simp; done) | (simp [*]; done)), H', ⟨Nat.le_refl _⟩, by repeat (first | exact Drawn0.refl _ | apply Drawn0.step)⟩
  case round =>
   clear H'
   try clear c1
   try clear p2
   try clear c3
   try clear c3b0
   try clear c3b1
   try clear c3b2
   obtain ⟨x5_1, rfl, HA, HK1, ⟨m1, rfl⟩⟩ := hrel
   cases gk with
   | zero => exact absurd HA.out (by simp [tattingref1_SameInts.l0])
   | succ k1 =>
    have H := HA.out
    clear HA
    simp only [tattingref1_SameInts.l0] at H
    by_cases c4 : x5_1 < (l0.length : Int)
    ·rw [if_pos c4] at H
     have c4b0 : decide (x5_1 < (l0.length : Int)) = true := decide_eq_true c4
     clear c4
     by_cases c5 : 0 ≤ x5_1
     ·rw [if_pos c5] at H
      have c5b0 : decide (0 ≤ x5_1) = true := decide_eq_true c5
      clear c5
      by_cases c6 : x5_1 < (l1.length : Int)
      ·rw [if_pos c6] at H
       have c6b0 : decide (x5_1 < (l1.length : Int)) = true := decide_eq_true c6
       clear c6
       by_cases c7 : (rd l0 x5_1) = (rd l1 x5_1)
       ·rw [if_pos c7] at H
        have c7b0 : ((rd l0 x5_1) == (rd l1 x5_1)) = true := beq_iff_eq.mpr c7
        have c7b1 : ((rd l0 x5_1) != (rd l1 x5_1)) = false := bne_eq_false_iff_eq.mpr c7
        clear c7
        have H' := Aside0.mk H
        clear H
        have p169 : 0 ≤ (x5_1 : Int) := of_decide_eq_true (by first | (with_reducible assumption) | assumption)
        have q169 : x5_1 < (l0.length : Int) := of_decide_eq_true (by first | (with_reducible assumption) | assumption)
        obtain ⟨ad169, e169, hx169_0⟩ := Kd.at_int HR0.out x5_1 p169 q169
        cases e169
        replace p169 := eq_true p169
        replace q169 := eq_true q169
        have p170 : 0 ≤ (x5_1 : Int) := of_decide_eq_true (by first | (with_reducible assumption) | assumption)
        have q170 : x5_1 < (l1.length : Int) := of_decide_eq_true (by first | (with_reducible assumption) | assumption)
        obtain ⟨ad170, e170, hx170_0⟩ := Kd.at_int HR1.out x5_1 p170 q170
        cases e170
        replace p170 := eq_true p170
        replace q170 := eq_true q170
        go_wp2
        repeat (go_quiet (fail); try go_wp2)
        go_roundg k1
        case measure => have := HK1.out; omega
        case rel => exact ⟨(wrap64 (x5_1 + 1)), (by first | rfl | (simp; done) | (simp [*]; done)), H', ⟨by have := HK1.out; omega⟩, by repeat (first | exact Drawn0.refl _ | apply Drawn0.step)⟩
       ·rw [if_neg c7] at H
        have c7b0 : ((rd l0 x5_1) == (rd l1 x5_1)) = false := beq_eq_false_iff_ne.mpr c7
        have c7b1 : ((rd l0 x5_1) != (rd l1 x5_1)) = true := bne_iff_ne.mpr c7
        obtain rfl := Option.some.inj H
        have p169 : 0 ≤ (x5_1 : Int) := of_decide_eq_true (by first | (with_reducible assumption) | assumption)
        have q169 : x5_1 < (l0.length : Int) := of_decide_eq_true (by first | (with_reducible assumption) | assumption)
        obtain ⟨ad169, e169, hx169_0⟩ := Kd.at_int HR0.out x5_1 p169 q169
        cases e169
        replace p169 := eq_true p169
        replace q169 := eq_true q169
        have p170 : 0 ≤ (x5_1 : Int) := of_decide_eq_true (by first | (with_reducible assumption) | assumption)
        have q170 : x5_1 < (l1.length : Int) := of_decide_eq_true (by first | (with_reducible assumption) | assumption)
        obtain ⟨ad170, e170, hx170_0⟩ := Kd.at_int HR1.out x5_1 p170 q170
        cases e170
        replace p170 := eq_true p170
        replace q170 := eq_true q170
        go_wp2
        repeat (go_quiet (fail); try go_wp2)
        go_ret
        exact ⟨by first | rfl | (simp; done) | (simp [*]; done), by repeat (first | exact Drawn0.refl _ | apply Drawn0.step)⟩
      ·rw [if_neg c6] at H
       exact absurd H (by simp)
     ·rw [if_neg c5] at H
      exact absurd H (by simp)
    ·rw [if_neg c4] at H
     have c4b0 : decide (x5_1 < (l0.length : Int)) = false := decide_eq_false c4
     clear c4
     obtain rfl := Option.some.inj H
     go_wp2
     repeat (go_quiet (fail); try go_wp2)
     go_ret
     exact ⟨by first | rfl | (simp; done) | (simp [*]; done), by repeat (first | exact Drawn0.refl _ | apply Drawn0.step)⟩
 ·rw [if_neg c3] at H
  have c3b0 : ((l0.length : Int) == (l1.length : Int)) = false := beq_eq_false_iff_ne.mpr c3
  have c3b1 : ((l0.length : Int) != (l1.length : Int)) = true := bne_iff_ne.mpr c3
  have c3b2 : (l0.length == l1.length) = false := by first | simpa using c3 | (simp at c3 ⊢; omega)
  obtain rfl := Option.some.inj H
  go_enter Try.func16, Try.ntmps16
  go_wp2
  repeat (go_quiet (fail); try go_wp2)
  go_ret
  exact ⟨by first | rfl | (simp; done) | (simp [*]; done), by repeat (first | exact Drawn0.refl _ | apply Drawn0.step)⟩

end Go.Proofs.Ytpodjfnmncpnmaa.PPairsKnown
