/- Functions of the given program, each a Lean function and the walk that shows it. -/
import Derived.Test.YtdiojfaenfggkaaGreatNTopNearD
import Derived.Outline
import Derived.Deep.RegionHeld3
import Derived.Deep.DeepCutAuto
import Derived.Deep.QuietTactic
import Derived.BigQuiet
import Derived.IntWalk
namespace Go.Proofs.YtdiojfaenfggkaaGreat.PTopNear
open Go.RowKit Go.Proofs.YtdiojfaenfggkaaGreatW.PrintWords Go.Proofs.YtdiojfaenfggkaaGreatW.PrintLast Go.Proofs.YtdiojfaenfggkaaGreatW.PrintMore
attribute [local go_sem] max2_int min2_int max_two min_two max_three min_three max_four min_four
set_option linter.unusedVariables false
set_option linter.unusedSimpArgs false
def grid_table.l0 : Nat → Int → List (List Int) → Int → Int → Option ((List (List Int)))
 | 0, _, _, _, _ => none
 | k + 1, x1, x5, x11, x12 => if x12 < x11 then (if 0 ≤ (wrap64 (x1 + 1)) then (if (wrap64 (x1 + 1) : Int).toNat ≤ 35184372088832 then (if 0 ≤ x12 then (if x12 < (x5.length : Int) then (grid_table.l0 k x1 (x5.set (x12 : Int).toNat (List.replicate (wrap64 (x1 + 1) : Int).toNat 0)) x11 (wrap64 (x12 + 1))) else (none)) else (none)) else (none)) else (none)) else (some x5)
def grid_table.f (k : Nat) (a0 : Int) (a1 : Int) : Option ((List (List Int))) := if 0 ≤ (wrap64 (a0 + 1)) then (if (wrap64 (a0 + 1) : Int).toNat ≤ 11728124029610 then ((some (List.replicate (wrap64 (a0 + 1) : Int).toNat [] : List (List Int))).bind fun y217 => (grid_table.l0 k a1 y217 (y217.length : Int) 0)) else (none)) else (none)
theorem grid_table.mono_l : ∀ k, (∀ y0 y1 y2 y3, LeO (grid_table.l0 k y0 y1 y2 y3) (grid_table.l0 (k + 1) y0 y1 y2 y3))
 | 0 => fun _ _ _ _ r h => by simp [grid_table.l0] at h
 | k + 1 => by
  have ih0 := grid_table.mono_l k
  ·intro y0 y1 y2 y3
   unfold grid_table.l0
   repeat' first
   | (with_reducible exact ih0 _ _ _ _)
   | (with_reducible exact LeO.refl _)
   | (with_reducible exact LeO.none _)
   | (with_reducible refine LeO.ite ?_ ?_)
   | (with_reducible refine LeO.bind ?_ (fun _ => ?_))
   | exact ih0 _ _ _ _
   | exact LeO.none _
   | refine LeO.ite ?_ ?_
   | refine LeO.bind ?_ (fun _ => ?_)
theorem grid_table.mono : ∀ a0 a1 k, LeO (grid_table.f k a0 a1) (grid_table.f (k + 1) a0 a1) := by
 intro a0 a1 k
 have ih0 := grid_table.mono_l k
 unfold grid_table.f
 repeat' first
   | (with_reducible exact ih0 _ _ _ _)
   | (with_reducible exact LeO.refl _)
   | (with_reducible exact LeO.none _)
   | (with_reducible refine LeO.ite ?_ ?_)
   | (with_reducible refine LeO.bind ?_ (fun _ => ?_))
   | exact ih0 _ _ _ _
   | exact LeO.none _
   | refine LeO.ite ?_ ?_
   | refine LeO.bind ?_ (fun _ => ?_)
set_option maxHeartbeats 8000000 in
set_option maxRecDepth 100000 in
theorem grid_table.calls (k : Nat) (a0 : Int) (a1 : Int) (r : List (List Int)) (w : World) (h : grid_table.f k a0 a1 = some r) :
  Calls Tryz.prog 151 #[.int .i64 a0, .int .i64 a1] w fun e w' => ∃ v0_ : Value, e = .returned (v0_) ∧ Kd.S (Kd.slice 3 (Kd.int .i64)) 25 w' w.heap.size (fun _ => True) v0_ r ∧ Below w.heap.size w w' := by
 have HB := Aside0.mk (Below.refl w.heap.size w)
 have H : (if 0 ≤ (wrap64 (a0 + 1)) then (if (wrap64 (a0 + 1) : Int).toNat ≤ 11728124029610 then ((some (List.replicate (wrap64 (a0 + 1) : Int).toNat [] : List (List Int))).bind fun y217 => (grid_table.l0 k a1 y217 (y217.length : Int) 0)) else (none)) else (none)) = some r := h
 clear h
 obtain ⟨ji3, hji3⟩ : ∃ j_ : Int, (wrap64 (a0 + 1)) = j_ := ⟨_, rfl⟩
 replace H : (if 0 ≤ (ji3) then (if (ji3 : Int).toNat ≤ 11728124029610 then ((some (List.replicate (ji3 : Int).toNat [] : List (List Int))).bind fun y217 => (grid_table.l0 k a1 y217 (y217.length : Int) 0)) else (none)) else (none)) = some r := by first | (rw [hji3] at H; exact H) | (simp only [hji3] at H ⊢; exact H)
 have hji3w : (IntKind.i64.wrap (a0 + 1)) = ji3 := (i64_w _).trans hji3
 by_cases c4 : 0 ≤ (ji3)
 ·rw [if_pos c4] at H
  have c4b0 := eq_true c4
  have c4b1 : decide (0 ≤ (ji3)) = true := decide_eq_true c4
  clear c4
  by_cases c5 : (ji3 : Int).toNat ≤ 11728124029610
  ·rw [if_pos c5] at H
   have c5b0 := eq_true c5
   have c5b1 : decide ((ji3 : Int).toNat ≤ 11728124029610) = true := decide_eq_true c5
   clear c5
   obtain ⟨y217, hy217⟩ : ∃ y_ : List (List Int), y_ = (List.replicate (ji3 : Int).toNat []) := ⟨_, rfl⟩
   replace H : (grid_table.l0 k a1 y217 (y217.length : Int) 0) = some r := by first | (rw [hy217]; with_reducible exact H) | (have H2_ := (Option.bind_some _ _).symm.trans H; rw [hy217]; with_reducible exact H2_) | (have H2_ := (Option.bind_some _ _).symm.trans H; with_reducible exact H2_) | with_reducible exact H | (rw [hy217]; exact H) | exact H
   have Ny217 := Aside0.mk hy217
   clear hy217
   have H' := Aside0.mk H
   clear H
   go_enter Tryz.func151, Tryz.ntmps151
   go_wp2_with (first | ((with_reducible refine gate_dst (N := 9) rfl ?_); refine Kd.S_make (Kd.slice 3 (Kd.int .i64)) _ 25 rfl (N := 9) rfl 111 _ _ rfl ji3 rfl rfl Tryz.underlying111 (.slice none 0 0) 24 info25 rfl (by decide) (by omega) [] (ok := fun _ => True) (okp := fun _ => True) ⟨_, rfl, Kd.R_nil _ _ _ _ _⟩ (fun _ hk => hk) trivial (of_decide_eq_true (by first | (with_reducible assumption) | assumption)) (Nat.le_trans (Nat.mul_le_mul_right _ (of_decide_eq_true (by first | (with_reducible assumption) | assumption) : ji3.toNat ≤ 11728124029610)) (by omega)) (Below.refl _ _) (Nat.le_refl _) ?_; intro v218 w6 ho7 hb hg_ hnew_; (try clear hg_); (try clear hnew_); (first | rw [← Ny217.out] at ho7 | (simp only [Int.reduceToNat] at ho7; rw [← Ny217.out] at ho7)); have n0_ := Aside0.mk (Kd.S_lower ho7 (below_size (by repeat (first | (with_reducible first | exact HB.out | apply below_alloc | apply pw_below_drewN | apply below_drew1) | exact HB.out)))); have n1_ := Aside0.mk (below_step (by repeat (first | (with_reducible first | exact HB.out | apply below_alloc | apply pw_below_drewN | apply below_drew1) | exact HB.out)) hb); clear HB; have HO219 := n0_; have HB := n1_; clear n0_ n1_; (try clear hb); (try clear ho7); obtain ⟨Ao8, co8, eo8⟩ := Kd.S_slice HO219.out; subst eo8))
   go_loopg [12] k (fun kq v12 w' => ∃ (x5_1 : List (List Int)) (x12_1 : Int), v12 = .int .i64 x12_1 ∧ Aside0 (grid_table.l0 kq a1 x5_1 (y217.length : Int) x12_1 = some r) ∧ Aside0 (kq ≤ k) ∧ Aside0 (Kd.S (Kd.slice 3 (Kd.int .i64)) 25 w' w.heap.size (fun _ => True) (.slice Ao8 y217.length co8) x5_1) ∧ Aside0 (Below w.heap.size w w'))
   case atStart => exact ⟨(y217), (0), (by first | rfl | (simp; done) | (simp [*]; done)), H', ⟨Nat.le_refl _⟩, ⟨by (with_reducible repeat (first | apply Kd.S_alloc | apply Kd.S_drewN | apply Kd.S_drew)); exact HO219.out⟩, ⟨by repeat (first | (with_reducible first | exact HB.out | apply below_alloc | apply pw_below_drewN | apply below_drew1) | exact HB.out)⟩⟩
   case round =>
    clear H'
    try clear c1
    try clear p2
    try clear c4
    try clear c4b0
    try clear c4b1
    try clear c5
    try clear c5b0
    try clear c5b1
    try clear p6
    obtain ⟨x5_1, x12_1, rfl, HA, HK1, HO_5, HB⟩ := hrel
    have hl5_1 := (Kd.S_reads' HO_5.out).1
    rw [hl5_1] at HO_5
    (try simp only [hl5_1])
    cases gk with
    | zero => exact absurd HA.out (by simp [grid_table.l0])
    | succ k1 =>
     have H := HA.out
     clear HA
     simp only [grid_table.l0] at H
     by_cases c9 : x12_1 < (y217.length : Int)
     ·rw [if_pos c9] at H
      have c9b0 : decide (x12_1 < (y217.length : Int)) = true := decide_eq_true c9
      try (have c9b0zhl5_1 := c9b0; rw [hl5_1] at c9b0zhl5_1)
      clear c9
      obtain ⟨ji10, hji10⟩ : ∃ j_ : Int, (wrap64 (a1 + 1)) = j_ := ⟨_, rfl⟩
      replace H : (if 0 ≤ (ji10) then (if (ji10 : Int).toNat ≤ 35184372088832 then (if 0 ≤ x12_1 then (if x12_1 < (x5_1.length : Int) then (grid_table.l0 k1 a1 (x5_1.set (x12_1 : Int).toNat (List.replicate (ji10 : Int).toNat 0)) (y217.length : Int) (wrap64 (x12_1 + 1))) else (none)) else (none)) else (none)) else (none)) = some r := by first | (rw [hji10] at H; exact H) | (simp only [hji10] at H ⊢; exact H)
      have hji10w : (IntKind.i64.wrap (a1 + 1)) = ji10 := (i64_w _).trans hji10
      by_cases c11 : 0 ≤ (ji10)
      ·rw [if_pos c11] at H
       have c11b0 := eq_true c11
       have c11b1 : decide (0 ≤ (ji10)) = true := decide_eq_true c11
       clear c11
       by_cases c12 : (ji10 : Int).toNat ≤ 35184372088832
       ·rw [if_pos c12] at H
        have c12b0 := eq_true c12
        have c12b1 : decide ((ji10 : Int).toNat ≤ 35184372088832) = true := decide_eq_true c12
        clear c12
        obtain ⟨y220, hy220⟩ : ∃ y_ : List Int, y_ = (List.replicate (ji10 : Int).toNat 0) := ⟨_, rfl⟩
        replace H : (if 0 ≤ x12_1 then (if x12_1 < (x5_1.length : Int) then (grid_table.l0 k1 a1 (x5_1.set (x12_1 : Int).toNat y220) (y217.length : Int) (wrap64 (x12_1 + 1))) else (none)) else (none)) = some r := by first | (rw [hy220]; with_reducible exact H) | (have H2_ := (Option.bind_some _ _).symm.trans H; rw [hy220]; with_reducible exact H2_) | (have H2_ := (Option.bind_some _ _).symm.trans H; with_reducible exact H2_) | with_reducible exact H | (rw [hy220]; exact H) | exact H
        have Ny220 := Aside0.mk hy220
        clear hy220
        by_cases c13 : 0 ≤ x12_1
        ·rw [if_pos c13] at H
         have c13b0 : decide (0 ≤ x12_1) = true := decide_eq_true c13
         clear c13
         by_cases c14 : x12_1 < (x5_1.length : Int)
         ·rw [if_pos c14] at H
          have c14b0 : decide (x12_1 < (x5_1.length : Int)) = true := decide_eq_true c14
          try (have c14b0zhl5_1 := c14b0; rw [hl5_1] at c14b0zhl5_1)
          clear c14
          obtain ⟨y223, hy223⟩ : ∃ y_ : List (List Int), y_ = (x5_1.set (x12_1 : Int).toNat y220) := ⟨_, rfl⟩
          replace H : (grid_table.l0 k1 a1 y223 (y217.length : Int) (wrap64 (x12_1 + 1))) = some r := by first | (rw [hy223]; with_reducible exact H) | (have H2_ := (Option.bind_some _ _).symm.trans H; rw [hy223]; with_reducible exact H2_) | (have H2_ := (Option.bind_some _ _).symm.trans H; with_reducible exact H2_) | with_reducible exact H | (rw [hy223]; exact H) | exact H
          have Ny223 := Aside0.mk hy223
          clear hy223
          have H' := Aside0.mk H
          clear H
          go_wp2_with (first | ((with_reducible refine gate_dst (N := 19) rfl ?_); refine Kd.R_make (Kd.int .i64) _ 3 rfl (N := 19) rfl 25 _ _ rfl ji10 rfl rfl Tryz.underlying25 (.int .i64 0) 8 info3 rfl (by decide) (by omega) 0 (ok := fun _ => True) (okp := fun _ => True) rfl (fun _ hk => hk) trivial (of_decide_eq_true (by first | (with_reducible assumption) | assumption)) (Nat.le_trans (Nat.mul_le_mul_right _ (of_decide_eq_true (by first | (with_reducible assumption) | assumption) : ji10.toNat ≤ 35184372088832)) (by omega)) (Below.refl _ _) (Nat.le_refl _) ?_; intro v221 w16 ho17 hb hg_ hnew_; (try clear hg_); (try clear hnew_); (first | rw [← Ny220.out] at ho17 | (simp only [Int.reduceToNat] at ho17; rw [← Ny220.out] at ho17)); have n0_ := Aside0.mk (Kd.S_elder' (by (with_reducible repeat (first | apply Kd.S_alloc | apply Kd.S_drewN | apply Kd.S_drew)); exact HO_5.out) (Kd.R_base ho17) hb); have n1_ := Aside0.mk (Kd.R_lower ho17 (below_size (by repeat (first | (with_reducible first | exact HB.out | apply below_alloc | apply pw_below_drewN | apply below_drew1) | exact HB.out)))); have n2_ := Aside0.mk (below_step (by repeat (first | (with_reducible first | exact HB.out | apply below_alloc | apply pw_below_drewN | apply below_drew1) | exact HB.out)) hb); clear HO_5; clear HB; have HO_5 := n0_; have HO222 := n1_; have HB := n2_; clear n0_ n1_ n2_; (try clear hb); (try clear ho17); have p15 : 0 ≤ (x12_1 : Int) := of_decide_eq_true (by first | (with_reducible assumption) | assumption); have q15 : (x12_1 : Int) < ((x5_1.length : Int) : Int) := of_decide_eq_true (by first | (with_reducible assumption) | assumption); obtain ⟨go15, co15, eo15, gb15, gl15, cl15, HG15⟩ := Kd.S_form HO_5.out (by omega); (first | cases eo15 | (injection eo15 with ea_ en_ ec_; (first | subst ea_ | (injection ea_ with ea_; subst ea_)); subst ec_; clear en_)); have GB15 := Aside0.mk gb15; have GG15 := Aside0.mk HG15; clear gb15 gl15 HG15; obtain ⟨_, ce15, hcl15, hM15, hcc15, hfr15, _, _⟩ := Kd.S_elem HO_5.out [] (x12_1 : Int) p15 q15; obtain ⟨ve15_0, rfl, ge15_0⟩ := hM15; have hx15_0 := hcc15 0 _ rfl; have hf15_0 := hfr15 0; (try simp only [show ((Kd.slice 3 (Kd.int .i64))).sz = 1 from rfl, Nat.mul_one, Nat.add_zero] at hx15_0); (try simp only [show ((Kd.slice 3 (Kd.int .i64))).sz = 1 from rfl, Nat.mul_one, Nat.add_zero] at hf15_0); (try clear hcl15); (try clear hcc15); (try clear hfr15); (try clear hM15); replace p15 := eq_true p15; replace q15 := eq_true q15; have n_ := Aside0.mk (Kd.S_mono (ok' := (fun k_ => some k_ ≠ (v221 : Value).ownBlock)) HO_5.out (fun k_ hk => hk.2)); clear HO_5; have HO_5 := n_; clear n_; have HX18 := Aside0.mk (show Kd.S (Kd.slice 3 (Kd.int .i64)) 25 w16 w.heap.size (fun k_ => ((fun _ => True)) k_ ∧ ¬ ((fun k_ => some k_ = (v221 : Value).ownBlock)) k_) (.slice (some ⟨go15, 0, none⟩) x5_1.length co8) x5_1 from (by (with_reducible repeat (first | apply Kd.S_alloc | apply Kd.S_drewN | apply Kd.S_drew)); exact Kd.S_mono HO_5.out (fun k_ hk => ⟨trivial, fun e_ => hk e_⟩))); obtain ⟨oki18, ce18, hcl18, hM18, hcc18, hfr18, hoki18, hH18⟩ := Kd.S_elem HX18.out [] (x12_1 : Int) (of_decide_eq_true (by first | (with_reducible assumption) | assumption)) (by have h_ : (x12_1 : Int) < ((x5_1.length : Int) : Int) := of_decide_eq_true (by first | (with_reducible assumption) | assumption); first | exact h_ | (have e_ := (Kd.S_reads' HO_5.out).1; omega) | simpa using h_); obtain ⟨ve18_0, rfl, ge18_0⟩ := hM18; have HP18 := Kd.S_seg hH18 (of_decide_eq_true (by first | (with_reducible assumption) | assumption)) (by have h_ : (x12_1 : Int) < ((x5_1.length : Int) : Int) := of_decide_eq_true (by first | (with_reducible assumption) | assumption); first | exact h_ | (have e_ := (Kd.S_reads' HO_5.out).1; omega) | simpa using h_) (seg := [v221]) (j := 0) (show 1 ≤ 1 from by decide) (x' := y220) (Kd.M_row (Kd.R_mono (Kd.R_tight rfl (Kd.R_mono (ok' := fun k_ => ((fun _ => True)) k_ ∧ k_ ≠ go15) (Kd.R_apart' (HO222.out) (Kd.S_typed HO_5.out) (by decide)) (fun k_ hk => ⟨trivial, fun e_ => (hk.2) (by rw [e_]; rfl)⟩))) (fun _ h_ => Or.inr (h_)))) (fun _ hk => hk) (fun k_ hk_ => ((Kd.R_mono (ok' := fun k_ => ((fun _ => True)) k_ ∧ k_ ≠ go15) (Kd.R_apart' (HO222.out) (Kd.S_typed HO_5.out) (by decide)) (fun k_ hk => ⟨trivial, fun e_ => (hk.2) (by rw [e_]; rfl)⟩))).1 k_ hk_.symm); have hx18_0 := hcc18 0 _ rfl; (try simp only [show ((Kd.slice 3 (Kd.int .i64))).sz = 1 from rfl, Nat.mul_one, Nat.add_zero] at hx18_0); have hf18_0 := hfr18 0; (try simp only [show ((Kd.slice 3 (Kd.int .i64))).sz = 1 from rfl, Nat.mul_one, Nat.add_zero] at hf18_0); (try clear hcl18); (try clear hcc18); (try clear hfr18); (try clear hM18); (try clear hoki18); (try clear hH18); (try simp only [show ((Kd.slice 3 (Kd.int .i64))).sz = 1 from rfl, Nat.mul_one, Nat.add_zero] at HP18)) | ((with_reducible refine gate_store (t := 25) (p := 20) rfl ?_); refine store_event (t := 25) (p := 20) (v := ?vo_w19) (w1 := (w16.setCell ⟨go15, (x12_1 : Int).toNat, none⟩ (v221))) ?hg ?ho ?hn ?hr ?_; (case ho => rfl); (case hg => rfl); (case hn => rfl); (case hr => first | (go_simp; done) | (go_simp; rfl) | (obtain ⟨A_, c_, e_⟩ := Kd.R_slice HO222.out; subst e_; go_simp; first | done | rfl)); intro w19 hw; have hg : w16.grownBy w19 (some go15) := (by rw [hw]; exact HP18.2); have hp_ : Kd.S (Kd.slice 3 (Kd.int .i64)) 25 w19 w.heap.size (fun _ => True) (.slice (some ⟨go15, 0, none⟩) x5_1.length co8) y223 := (by rw [hw, Ny223.out]; exact HP18.1); clear HP18; have n0_ := Aside0.mk (hp_); have n1_ := Aside0.mk ((by rw [hw]; exact below_set (HB.out) GB15.out : Below w.heap.size w w19)); clear HO_5; clear HB; clear HO222; have HO_5 := n0_; have HB := n1_; clear n0_ n1_; (try clear hg); (try clear hw); (try clear hp_)))
          (try simp only [← hl5_1])
          go_roundg k1
          case measure => have := HK1.out; omega
          case rel => exact ⟨(y223), (wrap64 (x12_1 + 1)), (by first | rfl | (simp; done) | (simp [*]; done)), H', ⟨by have := HK1.out; omega⟩, ⟨by (try simp only [hl5_1]); (with_reducible repeat (first | apply Kd.S_alloc | apply Kd.S_drewN | apply Kd.S_drew)); exact HO_5.out⟩, ⟨by repeat (first | (with_reducible first | exact HB.out | apply below_alloc | apply pw_below_drewN | apply below_drew1) | exact HB.out)⟩⟩
         ·rw [if_neg c14] at H
          exact absurd H (by simp)
        ·rw [if_neg c13] at H
         exact absurd H (by simp)
       ·rw [if_neg c12] at H
        exact absurd H (by simp)
      ·rw [if_neg c11] at H
       exact absurd H (by simp)
     ·rw [if_neg c9] at H
      have c9b0 : decide (x12_1 < (y217.length : Int)) = false := decide_eq_false c9
      try (have c9b0zhl5_1 := c9b0; rw [hl5_1] at c9b0zhl5_1)
      clear c9
      obtain rfl := Option.some.inj H
      go_wp2
      go_ret
      exact ⟨_, by first | rfl | (simp [errW_none, errW_some] <;> rfl) | (simp only [← hji3]; first | rfl | (simp [errW_none, errW_some] <;> rfl)) | (simp [*, errW_none, errW_some] <;> rfl), by (with_reducible repeat (first | apply Kd.S_alloc | apply Kd.S_drewN | apply Kd.S_drew)); exact HO_5.out, by repeat (first | (with_reducible first | exact HB.out | apply below_alloc | apply pw_below_drewN | apply below_drew1) | exact HB.out)⟩
  ·rw [if_neg c5] at H
   exact absurd H (by simp)
 ·rw [if_neg c4] at H
  exact absurd H (by simp)
mutual
def grid_Behind.l0 : Nat → List Int → List Int → List (List Int) → Int → Option ((List (List Int)))
 | 0, _, _, _, _ => none
 | k + 1, x0, x1, x5, x6 => if x6 ≥ 0 then (grid_Behind.l1 k x0 x1 x5 x6 (wrap64 ((x1.length : Int) - 1))) else (some x5)
def grid_Behind.l1 : Nat → List Int → List Int → List (List Int) → Int → Int → Option ((List (List Int)))
 | 0, _, _, _, _, _ => none
 | k + 1, x0, x1, x5, x6, x7 => if x7 ≥ 0 then (if 0 ≤ x6 then (if x6 < (x0.length : Int) then (if 0 ≤ x7 then (if x7 < (x1.length : Int) then (if (rd x0 x6) = (rd x1 x7) then (if x6 < (x5.length : Int) then (if 0 ≤ (wrap64 (x6 + 1)) then (if (wrap64 (x6 + 1)) < (x5.length : Int) then (if 0 ≤ (wrap64 (x7 + 1)) then (if (wrap64 (x7 + 1)) < ((rd_L4 x5 (wrap64 (x6 + 1))).length : Int) then (if x7 < ((rd_L4 x5 x6).length : Int) then (grid_Behind.l1 k x0 x1 (x5.set (x6 : Int).toNat ((rd_L4 x5 x6).set (x7 : Int).toNat (wrap64 ((rd (rd_L4 x5 (wrap64 (x6 + 1))) (wrap64 (x7 + 1))) + 1)))) x6 (wrap64 (x7 - 1))) else (none)) else (none)) else (none)) else (none)) else (none)) else (none)) else (if x6 < (x5.length : Int) then (if 0 ≤ (wrap64 (x6 + 1)) then (if (wrap64 (x6 + 1)) < (x5.length : Int) then (if x7 < ((rd_L4 x5 (wrap64 (x6 + 1))).length : Int) then (if 0 ≤ (wrap64 (x7 + 1)) then (if (wrap64 (x7 + 1)) < ((rd_L4 x5 x6).length : Int) then (if x7 < ((rd_L4 x5 x6).length : Int) then (grid_Behind.l1 k x0 x1 (x5.set (x6 : Int).toNat ((rd_L4 x5 x6).set (x7 : Int).toNat (mx (rd (rd_L4 x5 (wrap64 (x6 + 1))) x7) (rd (rd_L4 x5 x6) (wrap64 (x7 + 1)))))) x6 (wrap64 (x7 - 1))) else (none)) else (none)) else (none)) else (none)) else (none)) else (none)) else (none))) else (none)) else (none)) else (none)) else (none)) else (grid_Behind.l0 k x0 x1 x5 (wrap64 (x6 - 1)))
end
def grid_Behind.f (k : Nat) (l0 : List Int) (l1 : List Int) : Option ((List (List Int))) := (grid_table.f k (l0.length : Int) (l1.length : Int)).bind fun t224 => (grid_Behind.l0 k l0 l1 t224 (wrap64 ((l0.length : Int) - 1)))
theorem grid_Behind.mono_l : ∀ k, (∀ y0 y1 y2 y3, LeO (grid_Behind.l0 k y0 y1 y2 y3) (grid_Behind.l0 (k + 1) y0 y1 y2 y3)) ∧ (∀ y0 y1 y2 y3 y4, LeO (grid_Behind.l1 k y0 y1 y2 y3 y4) (grid_Behind.l1 (k + 1) y0 y1 y2 y3 y4))
 | 0 => ⟨fun _ _ _ _ r h => by simp [grid_Behind.l0] at h, fun _ _ _ _ _ r h => by simp [grid_Behind.l1] at h⟩
 | k + 1 => by
  obtain ⟨ih0, ih1⟩ := grid_Behind.mono_l k
  refine ⟨?_, ?_⟩
  ·intro y0 y1 y2 y3
   unfold grid_Behind.l0
   repeat' first
   | (with_reducible exact ih0 _ _ _ _)
   | (with_reducible exact ih1 _ _ _ _ _)
   | (with_reducible exact grid_table.mono _ _ _)
   | (with_reducible exact LeO.refl _)
   | (with_reducible exact LeO.none _)
   | (with_reducible refine LeO.ite ?_ ?_)
   | (with_reducible refine LeO.bind ?_ (fun _ => ?_))
   | exact ih0 _ _ _ _
   | exact ih1 _ _ _ _ _
   | exact grid_table.mono _ _ _
   | exact LeO.none _
   | refine LeO.ite ?_ ?_
   | refine LeO.bind ?_ (fun _ => ?_)
  ·intro y0 y1 y2 y3 y4
   unfold grid_Behind.l1
   repeat' first
   | (with_reducible exact ih0 _ _ _ _)
   | (with_reducible exact ih1 _ _ _ _ _)
   | (with_reducible exact grid_table.mono _ _ _)
   | (with_reducible exact LeO.refl _)
   | (with_reducible exact LeO.none _)
   | (with_reducible refine LeO.ite ?_ ?_)
   | (with_reducible refine LeO.bind ?_ (fun _ => ?_))
   | exact ih0 _ _ _ _
   | exact ih1 _ _ _ _ _
   | exact grid_table.mono _ _ _
   | exact LeO.none _
   | refine LeO.ite ?_ ?_
   | refine LeO.bind ?_ (fun _ => ?_)
theorem grid_Behind.mono : ∀ a0 a1 k, LeO (grid_Behind.f k a0 a1) (grid_Behind.f (k + 1) a0 a1) := by
 intro a0 a1 k
 obtain ⟨ih0, ih1⟩ := grid_Behind.mono_l k
 unfold grid_Behind.f
 repeat' first
   | (with_reducible exact ih0 _ _ _ _)
   | (with_reducible exact ih1 _ _ _ _ _)
   | (with_reducible exact grid_table.mono _ _ _)
   | (with_reducible exact LeO.refl _)
   | (with_reducible exact LeO.none _)
   | (with_reducible refine LeO.ite ?_ ?_)
   | (with_reducible refine LeO.bind ?_ (fun _ => ?_))
   | exact ih0 _ _ _ _
   | exact ih1 _ _ _ _ _
   | exact grid_table.mono _ _ _
   | exact LeO.none _
   | refine LeO.ite ?_ ?_
   | refine LeO.bind ?_ (fun _ => ?_)
def grid_Behind.T8 : Bool × List (List Nat × List Nat) := (true, [([], []), ([], []), ([0, 1], [0, 1]), ([2], [2]), ([], []), ([], []), ([4, 5], [4, 5]), ([6], [6]), ([3, 7], [3, 7])])
def grid_Behind.B8 : List Nat := [0, 0, 3, 7, 0, 0, 48, 112, 255]
theorem grid_Behind.tab8 : rtab .any (opsOf Tryz.f108 8) = grid_Behind.T8 := by kernel_rfl
theorem grid_Behind.bits8 : waitsOk grid_Behind.T8.2 grid_Behind.B8 = true := by kernel_rfl
def grid_Behind.T9 : Bool × List (List Nat × List Nat) := (true, [([], []), ([], []), ([0, 1], [0, 1]), ([2], [2]), ([], []), ([], []), ([], []), ([6], [6]), ([5, 7], [5, 7]), ([8], [8]), ([], []), ([10], [10]), ([9, 11], [9, 11]), ([12], [12]), ([13], [13]), ([3, 4, 0, 1, 2, 3, 4, 5, 6, 7, 8, 9, 10, 11, 12, 13, 14], [3, 4]), ([15, 14, 0, 1, 2, 3, 4, 5, 6, 7, 8, 9, 10, 11, 12, 13, 14], [14, 15])])
def grid_Behind.B9 : List Nat := [0, 0, 3, 7, 0, 0, 0, 64, 224, 480, 0, 1024, 4064, 8160, 16352, 32767, 65535]
theorem grid_Behind.tab9 : rtab .any (opsOf Tryz.f108 9) = grid_Behind.T9 := by kernel_rfl
theorem grid_Behind.bits9 : waitsOk grid_Behind.T9.2 grid_Behind.B9 = true := by kernel_rfl
def grid_Behind.T10 : Bool × List (List Nat × List Nat) := (true, [([], []), ([], []), ([0, 1], [0, 1]), ([2], [2]), ([], []), ([], []), ([], []), ([6], [6]), ([5, 7], [5, 7]), ([8], [8]), ([], []), ([9, 10], [9, 10]), ([11], [11]), ([], []), ([], []), ([13, 14], [13, 14]), ([15], [15]), ([], []), ([17], [17]), ([16, 18], [16, 18]), ([19], [19]), ([12, 20], [12, 20]), ([3, 4, 0, 1, 2, 3, 4, 5, 6, 7, 8, 9, 10, 11, 12, 13, 14, 15, 16, 17, 18, 19, 20, 21], [3, 4]), ([22, 21, 0, 1, 2, 3, 4, 5, 6, 7, 8, 9, 10, 11, 12, 13, 14, 15, 16, 17, 18, 19, 20, 21], [21, 22])])
def grid_Behind.B10 : List Nat := [0, 0, 3, 7, 0, 0, 0, 64, 224, 480, 0, 2016, 4064, 0, 0, 24576, 57344, 0, 131072, 516096, 1040384, 2097120, 4194303, 8388607]
theorem grid_Behind.tab10 : rtab .any (opsOf Tryz.f108 10) = grid_Behind.T10 := by kernel_rfl
theorem grid_Behind.bits10 : waitsOk grid_Behind.T10.2 grid_Behind.B10 = true := by kernel_rfl
set_option maxHeartbeats 8000000 in
set_option maxRecDepth 100000 in
theorem grid_Behind.calls (k : Nat) (A0 : Option Addr) (c0 : Nat) (l0 : List Int) (A1 : Option Addr) (c1 : Nat) (l1 : List Int) (r : List (List Int)) (w : World) (hr0 : Kd.C (Kd.int .i64) w A0 l0.length l0) (hc0 : l0.length ≤ c0) (hr1 : Kd.C (Kd.int .i64) w A1 l1.length l1) (hc1 : l1.length ≤ c1) (h : grid_Behind.f k l0 l1 = some r) :
  Calls Tryz.prog 108 #[.slice A0 l0.length c0, .slice A1 l1.length c1] w fun e w' => ∃ v0_ : Value, e = .returned (v0_) ∧ Kd.S (Kd.slice 3 (Kd.int .i64)) 25 w' w.heap.size (fun _ => True) v0_ r ∧ Below w.heap.size w w' := by
 have HR0 := Aside0.mk hr0
 have HC0 := Aside0.mk hc0
 clear hr0 hc0
 have HR1 := Aside0.mk hr1
 have HC1 := Aside0.mk hc1
 clear hr1 hc1
 have HB := Aside0.mk (Below.refl w.heap.size w)
 have H : ((grid_table.f k (l0.length : Int) (l1.length : Int)).bind fun t224 => (grid_Behind.l0 k l0 l1 t224 (wrap64 ((l0.length : Int) - 1)))) = some r := h
 clear h
 replace H := Option.bind_eq_some_iff.mp H
 obtain ⟨t224, A30, H⟩ := H
 replace H : (grid_Behind.l0 k l0 l1 t224 (wrap64 ((l0.length : Int) - 1))) = some r := H
 have A3 := Aside0.mk A30
 clear A30
 have H' := Aside0.mk H
 clear H
 go_enter Tryz.func108, Tryz.ntmps108
 try dsimp only [List.append]
 go_wp2_with (first | ((first | (with_reducible refine gate_callee (f := 151) rfl ?_); refine goesL_ (some 12) rfl rfl Tryz.func151 (by kernel_rfl) rfl #[.int .i64 (l0.length : Int), .int .i64 (l1.length : Int)] rfl (by (try simp only [List.map_toArray, List.map_cons, List.map_nil]); first | done | rfl | (simp only [List.length_drop, List.length_take]; rfl)) ?_ | go_at_call 151); (with_reducible refine (grid_table.calls k (l0.length : Int) (l1.length : Int) t224 _ A3.out).mono ?_); rintro e w4 ⟨v225, rfl, ho0, hb⟩; (try refine ⟨_, rfl, ?_⟩); have n0_ := Aside0.mk (Kd.S_lower ho0 (below_size (by repeat (first | (with_reducible first | exact HB.out | apply below_alloc | apply pw_below_drewN | apply below_drew1) | exact HB.out)))); have n1_ := Aside0.mk (below_step (by repeat (first | (with_reducible first | exact HB.out | apply below_alloc | apply pw_below_drewN | apply below_drew1) | exact HB.out)) hb); clear HB; have HO226 := n0_; have HB := n1_; clear n0_ n1_; (try clear hb); (try clear hb2); (try clear hk); (try clear hi); (try clear ho0)))
 go_loopg [6] k (fun kq v6 w' => ∃ (x5_1 : List (List Int)) (x6_1 : Int), v6 = .int .i64 x6_1 ∧ Aside0 (grid_Behind.l0 kq l0 l1 x5_1 x6_1 = some r) ∧ Aside0 (kq ≤ k) ∧ Aside0 (Kd.S (Kd.slice 3 (Kd.int .i64)) 25 w' w.heap.size (fun _ => True) v225 x5_1) ∧ Aside0 (Below w.heap.size w w'))
 case atStart => exact ⟨(t224), (wrap64 ((l0.length : Int) - 1)), (by first | rfl | (simp; done) | (simp [*]; done)), H', ⟨Nat.le_refl _⟩, ⟨by (with_reducible repeat (first | apply Kd.S_alloc | apply Kd.S_drewN | apply Kd.S_drew)); exact HO226.out⟩, ⟨by repeat (first | (with_reducible first | exact HB.out | apply below_alloc | apply pw_below_drewN | apply below_drew1) | exact HB.out)⟩⟩
 case round =>
  clear H'
  try clear c1
  try clear p2
  obtain ⟨x5_1, x6_1, rfl, HA, HK1, HO_5, HB⟩ := hrel
  cases gk with
  | zero => exact absurd HA.out (by simp [grid_Behind.l0])
  | succ k1 =>
   have H := HA.out
   clear HA
   simp only [grid_Behind.l0] at H
   by_cases c5 : x6_1 ≥ 0
   ·rw [if_pos c5] at H
    have c5b0 : decide (0 ≤ x6_1) = true := decide_eq_true c5
    clear c5
    have H' := Aside0.mk H
    clear H
    go_wp2
    go_loopg [7] k1 (fun kq v7 w' => ∃ (x5_2 : List (List Int)) (x7_2 : Int), v7 = .int .i64 x7_2 ∧ Aside0 (grid_Behind.l1 kq l0 l1 x5_2 x6_1 x7_2 = some r) ∧ Aside0 (kq ≤ k1) ∧ Aside0 (Kd.S (Kd.slice 3 (Kd.int .i64)) 25 w' w.heap.size (fun _ => True) v225 x5_2) ∧ Aside0 (Below w.heap.size w w'))
    case atStart => exact ⟨(x5_1), (wrap64 ((l1.length : Int) - 1)), (by first | rfl | (simp; done) | (simp [*]; done)), H', ⟨Nat.le_refl _⟩, ⟨by (with_reducible repeat (first | apply Kd.S_alloc | apply Kd.S_drewN | apply Kd.S_drew)); exact HO_5.out⟩, ⟨by repeat (first | (with_reducible first | exact HB.out | apply below_alloc | apply pw_below_drewN | apply below_drew1) | exact HB.out)⟩⟩
    case round =>
     clear H'
     try clear c1
     try clear p2
     try clear c5
     try clear c5b0
     try clear p2
     obtain ⟨x5_2, x7_2, rfl, HA, HK2, HO_5, HB⟩ := hrel
     cases gk with
     | zero => exact absurd HA.out (by simp [grid_Behind.l1])
     | succ k2 =>
      have H := HA.out
      clear HA
      simp only [grid_Behind.l1] at H
      by_cases c6 : x7_2 ≥ 0
      ·rw [if_pos c6] at H
       have c6b0 : decide (0 ≤ x7_2) = true := decide_eq_true c6
       clear c6
       by_cases c7 : 0 ≤ x6_1
       ·rw [if_pos c7] at H
        have c7b0 : decide (0 ≤ x6_1) = true := decide_eq_true c7
        clear c7
        by_cases c8 : x6_1 < (l0.length : Int)
        ·rw [if_pos c8] at H
         have c8b0 : decide (x6_1 < (l0.length : Int)) = true := decide_eq_true c8
         clear c8
         by_cases c9 : 0 ≤ x7_2
         ·rw [if_pos c9] at H
          have c9b0 : decide (0 ≤ x7_2) = true := decide_eq_true c9
          clear c9
          by_cases c10 : x7_2 < (l1.length : Int)
          ·rw [if_pos c10] at H
           have c10b0 : decide (x7_2 < (l1.length : Int)) = true := decide_eq_true c10
           clear c10
           by_cases c11 : (rd l0 x6_1) = (rd l1 x7_2)
           ·rw [if_pos c11] at H
            have c11b0 : ((rd l0 x6_1) == (rd l1 x7_2)) = true := beq_iff_eq.mpr c11
            have c11b1 : ((rd l0 x6_1) != (rd l1 x7_2)) = false := bne_eq_false_iff_eq.mpr c11
            clear c11
            by_cases c12 : x6_1 < (x5_2.length : Int)
            ·rw [if_pos c12] at H
             have c12b0 : decide (x6_1 < (x5_2.length : Int)) = true := decide_eq_true c12
             clear c12
             obtain ⟨ji13, hji13⟩ : ∃ j_ : Int, (wrap64 (x6_1 + 1)) = j_ := ⟨_, rfl⟩
             replace H : (if 0 ≤ (ji13) then (if (ji13) < (x5_2.length : Int) then (if 0 ≤ (wrap64 (x7_2 + 1)) then (if (wrap64 (x7_2 + 1)) < ((rd_L4 x5_2 (ji13)).length : Int) then (if x7_2 < ((rd_L4 x5_2 x6_1).length : Int) then (grid_Behind.l1 k2 l0 l1 (x5_2.set (x6_1 : Int).toNat ((rd_L4 x5_2 x6_1).set (x7_2 : Int).toNat (wrap64 ((rd (rd_L4 x5_2 (ji13)) (wrap64 (x7_2 + 1))) + 1)))) x6_1 (wrap64 (x7_2 - 1))) else (none)) else (none)) else (none)) else (none)) else (none)) = some r := by first | (rw [hji13] at H; exact H) | (simp only [hji13] at H ⊢; exact H)
             have hji13w : (IntKind.i64.wrap (x6_1 + 1)) = ji13 := (i64_w _).trans hji13
             by_cases c14 : 0 ≤ (ji13)
             ·rw [if_pos c14] at H
              have c14b0 : decide (0 ≤ (ji13)) = true := decide_eq_true c14
              clear c14
              by_cases c15 : (ji13) < (x5_2.length : Int)
              ·rw [if_pos c15] at H
               have c15b0 : decide ((ji13) < (x5_2.length : Int)) = true := decide_eq_true c15
               clear c15
               obtain ⟨ji16, hji16⟩ : ∃ j_ : Int, (wrap64 (x7_2 + 1)) = j_ := ⟨_, rfl⟩
               replace H : (if 0 ≤ (ji16) then (if (ji16) < ((rd_L4 x5_2 (ji13)).length : Int) then (if x7_2 < ((rd_L4 x5_2 x6_1).length : Int) then (grid_Behind.l1 k2 l0 l1 (x5_2.set (x6_1 : Int).toNat ((rd_L4 x5_2 x6_1).set (x7_2 : Int).toNat (wrap64 ((rd (rd_L4 x5_2 (ji13)) (ji16)) + 1)))) x6_1 (wrap64 (x7_2 - 1))) else (none)) else (none)) else (none)) = some r := by first | (rw [hji16] at H; exact H) | (simp only [hji16] at H ⊢; exact H)
               have hji16w : (IntKind.i64.wrap (x7_2 + 1)) = ji16 := (i64_w _).trans hji16
               by_cases c17 : 0 ≤ (ji16)
               ·rw [if_pos c17] at H
                have c17b0 : decide (0 ≤ (ji16)) = true := decide_eq_true c17
                clear c17
                by_cases c18 : (ji16) < ((rd_L4 x5_2 (ji13)).length : Int)
                ·rw [if_pos c18] at H
                 have c18b0 : decide ((ji16) < ((rd_L4 x5_2 (ji13)).length : Int)) = true := decide_eq_true c18
                 clear c18
                 by_cases c19 : x7_2 < ((rd_L4 x5_2 x6_1).length : Int)
                 ·rw [if_pos c19] at H
                  have c19b0 : decide (x7_2 < ((rd_L4 x5_2 x6_1).length : Int)) = true := decide_eq_true c19
                  clear c19
                  obtain ⟨y232, hy232⟩ : ∃ y_ : List Int, y_ = ((rd_L4 x5_2 x6_1).set (x7_2 : Int).toNat (wrap64 ((rd (rd_L4 x5_2 (ji13)) (ji16)) + 1))) := ⟨_, rfl⟩
                  replace H : (grid_Behind.l1 k2 l0 l1 (x5_2.set (x6_1 : Int).toNat y232) x6_1 (wrap64 (x7_2 - 1))) = some r := by first | (rw [hy232]; with_reducible exact H) | (have H2_ := (Option.bind_some _ _).symm.trans H; rw [hy232]; with_reducible exact H2_) | (have H2_ := (Option.bind_some _ _).symm.trans H; with_reducible exact H2_) | with_reducible exact H | (rw [hy232]; exact H) | exact H
                  have Ny232 := Aside0.mk hy232
                  clear hy232
                  obtain ⟨y234, hy234⟩ : ∃ y_ : List (List Int), y_ = (x5_2.set (x6_1 : Int).toNat y232) := ⟨_, rfl⟩
                  replace H : (grid_Behind.l1 k2 l0 l1 y234 x6_1 (wrap64 (x7_2 - 1))) = some r := by first | (rw [hy234]; with_reducible exact H) | (have H2_ := (Option.bind_some _ _).symm.trans H; rw [hy234]; with_reducible exact H2_) | (have H2_ := (Option.bind_some _ _).symm.trans H; with_reducible exact H2_) | with_reducible exact H | (rw [hy234]; exact H) | exact H
                  have Ny234 := Aside0.mk hy234
                  clear hy234
                  have H' := Aside0.mk H
                  clear H
                  try go_wp2
                  have n0_ := Aside0.mk (Kd.S_drew HO_5.out)
                  have n1_ := Aside0.mk (below_drew1 HB.out)
                  clear HO_5
                  clear HB
                  have HO_5 := n0_
                  have HB := n1_
                  clear n0_ n1_
                  have p227 : 0 ≤ (x6_1 : Int) := of_decide_eq_true (by first | (with_reducible assumption) | assumption)
                  have q227 : x6_1 < (l0.length : Int) := of_decide_eq_true (by first | (with_reducible assumption) | assumption)
                  obtain ⟨ad227, e227, hx227_0⟩ := Kd.at_int HR0.out x6_1 p227 q227
                  have hw227_0 := hx227_0
                  cases e227
                  replace hx227_0 := (HB.out.cell (World.block_lt_of_cell? w _ hx227_0)).trans hx227_0
                  replace p227 := eq_true p227
                  replace q227 := eq_true q227
                  have p228 : 0 ≤ (x7_2 : Int) := of_decide_eq_true (by first | (with_reducible assumption) | assumption)
                  have q228 : x7_2 < (l1.length : Int) := of_decide_eq_true (by first | (with_reducible assumption) | assumption)
                  obtain ⟨ad228, e228, hx228_0⟩ := Kd.at_int HR1.out x7_2 p228 q228
                  have hw228_0 := hx228_0
                  cases e228
                  replace hx228_0 := (HB.out.cell (World.block_lt_of_cell? w _ hx228_0)).trans hx228_0
                  replace p228 := eq_true p228
                  replace q228 := eq_true q228
                  refine start_ (n := 9) (S := fun w' => w'.cell? (ad227.add (x6_1).toNat) = some (.int .i64 (rd l0 x6_1)) ∧ w'.cell? (ad228.add (x7_2).toNat) = some (.int .i64 (rd l1 x7_2))) (ds := []) #[N,N,N,N,N,N,N,N,N] (by kernel_rfl) rfl rfl ⟨((HB.out.cell (World.block_lt_of_cell? w _ hw227_0)).trans hw227_0), ((HB.out.cell (World.block_lt_of_cell? w _ hw228_0)).trans hw228_0)⟩ (fun hHeld => ?_); refine with_tabW grid_Behind.tab8 grid_Behind.bits8 (fun HT_ HW_ => ?_)
                  generalize wr.drew = w21 at HO_5 HB hx227_0 hx228_0 hHeld ⊢
                  refine pure_ (i := 0) (N := some 27) (v := ?_) (a' := ?_) #[Y,N,N,N,N,N,N,N,N] rfl rfl (any_of HT_.out (by kernel_rfl)) (fun _ _ _ h => h) (Or.inl ⟨by rfl, ?_⟩) ?_ ?_; rotate_left
                  ·intro w'; go_simp; with_reducible rfl
                  rotate_left
                  ·simp only [Act.put, sA,sB,sC, i64_w, i32_w]; rfl
                  refine pure_ (i := 1) (N := some 28) (v := ?_) (a' := ?_) #[Y,Y,N,N,N,N,N,N,N] rfl rfl (any_of HT_.out (by kernel_rfl)) (fun _ _ _ h => h) (Or.inl ⟨by rfl, ?_⟩) ?_ ?_; rotate_left
                  ·intro w'; go_simp; with_reducible rfl
                  rotate_left
                  ·simp only [Act.put, sA,sB,sC, i64_w, i32_w]; rfl
                  refine pure_ (i := 2) (N := some 29) (v := ?_) (a' := ?_) #[Y,Y,Y,N,N,N,N,N,N] rfl rfl (any_of HT_.out (by kernel_rfl)) (fun _ _ _ h => h) (Or.inl ⟨by rfl, ?_⟩) ?_ ?_; rotate_left
                  ·intro w'; go_simp; with_reducible rfl
                  rotate_left
                  ·simp only [Act.put, sA,sB,sC, i64_w, i32_w]; rfl
                  refine pure_ (i := 4) (N := some 31) (v := ?_) (a' := ?_) #[Y,Y,Y,N,Y,N,N,N,N] rfl rfl (any_of HT_.out (by kernel_rfl)) (fun _ _ _ h => h) (Or.inl ⟨by rfl, ?_⟩) ?_ ?_; rotate_left
                  ·intro w'; go_simp; with_reducible rfl
                  rotate_left
                  ·simp only [Act.put, sA,sB,sC, i64_w, i32_w]; rfl
                  refine pure_ (i := 5) (N := some 32) (v := ?_) (a' := ?_) #[Y,Y,Y,N,Y,Y,N,N,N] rfl rfl (any_of HT_.out (by kernel_rfl)) (fun _ _ _ h => h) (Or.inl ⟨by rfl, ?_⟩) ?_ ?_; rotate_left
                  ·intro w'; go_simp; with_reducible rfl
                  rotate_left
                  ·simp only [Act.put, sA,sB,sC, i64_w, i32_w]; rfl
                  refine pure_ (i := 6) (N := some 33) (v := ?_) (a' := ?_) #[Y,Y,Y,N,Y,Y,Y,N,N] rfl rfl (any_of HT_.out (by kernel_rfl)) (fun _ _ _ h => h) (Or.inl ⟨by rfl, ?_⟩) ?_ ?_; rotate_left
                  ·intro w'; go_simp; with_reducible rfl
                  rotate_left
                  ·simp only [Act.put, sA,sB,sC, i64_w, i32_w]; rfl
                  refine take_ (i := 3) (N := some 30) (v := ?_) (a' := ?_) #[Y,Y,Y,Y,Y,Y,Y,N,N] rfl rfl (take_ofW HT_.out HW_.out (by kernel_rfl)) (fun _ _ _ h => h) (Or.inl ⟨by rfl, ?_⟩) hHeld ?_ ?_; rotate_left
                  ·rintro w' ⟨s0, s1⟩; go_simp; with_reducible rfl
                  rotate_left
                  ·simp only [Act.put, sA,sB,sC, i64_w, i32_w]; rfl
                  refine take_ (i := 7) (N := some 34) (v := ?_) (a' := ?_) #[Y,Y,Y,Y,Y,Y,Y,Y,N] rfl rfl (take_ofW HT_.out HW_.out (by kernel_rfl)) (fun _ _ _ h => h) (Or.inl ⟨by rfl, ?_⟩) hHeld ?_ ?_; rotate_left
                  ·rintro w' ⟨s0, s1⟩; go_simp; with_reducible rfl
                  rotate_left
                  ·simp only [Act.put, sA,sB,sC, i64_w, i32_w]; rfl
                  refine pure_ (i := 8) (N := some 35) (v := ?_) (a' := ?_) #[Y,Y,Y,Y,Y,Y,Y,Y,Y] rfl rfl (any_of HT_.out (by kernel_rfl)) (fun _ _ _ h => h) (Or.inl ⟨by rfl, ?_⟩) ?_ ?_; rotate_left
                  ·intro w'; go_simp; with_reducible rfl
                  rotate_left
                  ·simp only [Act.put, sA,sB,sC, i64_w, i32_w]; rfl
                  refine done_ (done_of HT_.out (by kernel_rfl)) ?_
                  try go_wp2
                  have n0_ := Aside0.mk (Kd.S_drew HO_5.out)
                  have n1_ := Aside0.mk (below_drew1 HB.out)
                  clear HO_5
                  clear HB
                  have HO_5 := n0_
                  have HB := n1_
                  clear n0_ n1_
                  obtain ⟨Ao23, co23, eo23⟩ := Kd.S_slice HO_5.out
                  (first | subst eo23 | (injection eo23 with f1_ f2_ f3_; have f4_ := f1_.symm; have f5_ := f3_.symm; clear f1_ f2_ f3_; subst f4_; subst f5_))
                  have p229 : 0 ≤ (x6_1 : Int) := of_decide_eq_true (by first | (with_reducible assumption) | assumption)
                  have q229 : x6_1 < (x5_2.length : Int) := of_decide_eq_true (by first | (with_reducible assumption) | assumption)
                  try (obtain ⟨Ap229, cp229, ep229⟩ := Kd.S_slice HO_5.out; subst ep229)
                  obtain ⟨ad229, A229_0, c229_0, e229, hx229_0, hl229_0, hi229_0⟩ := at_L4 (Kd.S_reads' HO_5.out).2.2 x6_1 p229 q229
                  cases e229
                  obtain ⟨ce229, hce229, hMe229, hcc229⟩ := Kd.S_get HO_5.out [] x6_1 p229 (by first | exact q229 | exact of_decide_eq_true (by first | (with_reducible assumption) | assumption) | (have e_ := (Kd.S_reads' HO_5.out).1; omega))
                  obtain ⟨ve229_0, rfl, ge229_0⟩ := hMe229
                  have hv229_0 := hcc229 0 _ rfl
                  rw [Nat.add_zero, show ((Kd.slice 3 (Kd.int .i64))).sz = 1 from rfl, Nat.mul_one] at hv229_0
                  replace hv229_0 := Option.some.inj (hv229_0.symm.trans hx229_0)
                  rw [hv229_0] at ge229_0
                  have HL229_0 := Aside0.mk (show Kd.R (Kd.int .i64) 3 _ _ _ _ (rd_L4 x5_2 x6_1) from ge229_0)
                  clear hv229_0 ge229_0
                  have HX229_0 := Aside0.mk hx229_0
                  clear hcc229 hce229
                  have HR229_0 := Aside0.mk hi229_0
                  have HC229_0 := Aside0.mk hl229_0
                  clear hi229_0 hl229_0
                  replace p229 := eq_true p229
                  replace q229 := eq_true q229
                  have p230 : 0 ≤ ((ji13) : Int) := of_decide_eq_true (by first | (with_reducible assumption) | assumption)
                  have q230 : (ji13) < (x5_2.length : Int) := of_decide_eq_true (by first | (with_reducible assumption) | assumption)
                  try (obtain ⟨Ap230, cp230, ep230⟩ := Kd.S_slice HO_5.out; subst ep230)
                  obtain ⟨ad230, A230_0, c230_0, e230, hx230_0, hl230_0, hi230_0⟩ := at_L4 (Kd.S_reads' HO_5.out).2.2 (ji13) p230 q230
                  obtain rfl : ad229 = ad230 := (by injection e230)
                  obtain ⟨ce230, hce230, hMe230, hcc230⟩ := Kd.S_get HO_5.out [] (ji13) p230 (by first | exact q230 | exact of_decide_eq_true (by first | (with_reducible assumption) | assumption) | (have e_ := (Kd.S_reads' HO_5.out).1; omega))
                  obtain ⟨ve230_0, rfl, ge230_0⟩ := hMe230
                  have hv230_0 := hcc230 0 _ rfl
                  rw [Nat.add_zero, show ((Kd.slice 3 (Kd.int .i64))).sz = 1 from rfl, Nat.mul_one] at hv230_0
                  replace hv230_0 := Option.some.inj (hv230_0.symm.trans hx230_0)
                  rw [hv230_0] at ge230_0
                  have HL230_0 := Aside0.mk (show Kd.R (Kd.int .i64) 3 _ _ _ _ (rd_L4 x5_2 (ji13)) from ge230_0)
                  clear hv230_0 ge230_0
                  have HX230_0 := Aside0.mk hx230_0
                  clear hcc230 hce230
                  have HR230_0 := Aside0.mk hi230_0
                  have HC230_0 := Aside0.mk hl230_0
                  clear hi230_0 hl230_0
                  replace p230 := eq_true p230
                  replace q230 := eq_true q230
                  have p231 : 0 ≤ ((ji16) : Int) := of_decide_eq_true (by first | (with_reducible assumption) | assumption)
                  have q231 : (ji16) < ((rd_L4 x5_2 (ji13)).length : Int) := of_decide_eq_true (by first | (with_reducible assumption) | assumption)
                  obtain ⟨ad231, e231, hx231_0⟩ := Kd.at_int (by repeat (first | (with_reducible exact HR230_0.out) | (with_reducible refine Kd.C_alloc ?_ _) | (with_reducible refine Kd.C_drewN ?_ _) | (with_reducible refine Kd.C_drew ?_) | exact HR230_0.out)) (ji16) p231 q231
                  cases e231
                  replace p231 := eq_true p231
                  replace q231 := eq_true q231
                  have p20 : 0 ≤ (x7_2 : Int) := of_decide_eq_true (by first | (with_reducible assumption) | assumption)
                  have q20 : (x7_2 : Int) < (((rd_L4 x5_2 x6_1).length : Int) : Int) := of_decide_eq_true (by first | (with_reducible assumption) | assumption)
                  obtain ⟨go20, co20, eo20, gb20, gl20, cl20, HG20⟩ := Kd.R_form HL229_0.out (by omega)
                  (first | cases eo20 | (injection eo20 with ea_ en_ ec_; (first | subst ea_ | (injection ea_ with ea_; subst ea_)); subst ec_; clear en_))
                  have GB20 := Aside0.mk gb20
                  have GG20 := Aside0.mk HG20
                  clear gb20 gl20 HG20
                  obtain ⟨hx20_0, hf20_0⟩ := Kd.R_celln 0 HL229_0.out (x7_2 : Int) p20 q20
                  replace p20 := eq_true p20
                  replace q20 := eq_true q20
                  have hq24 : (x6_1 : Int) < (x5_2.length : Int) := (by have h_ : (x6_1 : Int) < ((x5_2.length : Int) : Int) := of_decide_eq_true (by first | (with_reducible assumption) | assumption); first | exact h_ | (have e_ := (Kd.S_reads' HO_5.out).1; omega) | simpa only [List.length_set, List.length_set] using h_)
                  obtain ⟨oki24, ce24, hcl24, hM24, hcc24, hok24, hbk24⟩ := Kd.S_borrow HO_5.out [] (x6_1 : Int) (of_decide_eq_true (by first | (with_reducible assumption) | assumption)) hq24
                  obtain ⟨ve24_0, rfl, ge24_0⟩ := hM24
                  have hv24 := hcc24 0 _ rfl
                  rw [Nat.add_zero, show ((Kd.slice 3 (Kd.int .i64))).sz = 1 from rfl, Nat.mul_one] at hv24
                  replace hv24 := Option.some.inj (hv24.symm.trans HX229_0.out)
                  subst hv24
                  clear hcc24 hcl24
                  replace ge24_0 := (show Kd.R (Kd.int .i64) 3 _ _ _ _ (rd_L4 x5_2 x6_1) from ge24_0)
                  have HP24 := Kd.R_putg ge24_0 (x7_2 : Int) (wrap64 ((rd (rd_L4 x5_2 (ji13)) (ji16)) + 1))
                  rw [← Ny232.out] at HP24
                  have HS24 := hbk24 HP24.2 (fun k_ e_ => by injection e_ with e_; subst e_; exact ge24_0.1 _ rfl) (x' := y232) (Kd.M_row HP24.1)
                  rw [← Ny234.out] at HS24
                  have HQ24 := Aside0.mk HS24
                  clear HP24 HS24 hbk24 hok24
                  refine start_ (n := 17) (S := fun w' => w'.cell? (ad229.add (x6_1).toNat) = some (.slice (some ⟨go20, 0, none⟩) (rd_L4 x5_2 x6_1).length c229_0) ∧ w'.cell? (ad229.add ((ji13)).toNat) = some (.slice (some ad231) (rd_L4 x5_2 (ji13)).length c230_0) ∧ w'.cell? (ad231.add ((ji16)).toNat) = some (.int .i64 (rd (rd_L4 x5_2 (ji13)) (ji16)))) (ds := [16]) #[N,N,N,N,N,N,N,N,N,N,N,N,N,N,N,N,N] (by kernel_rfl) rfl rfl ⟨hx229_0, hx230_0, hx231_0⟩ (fun hHeld => ?_); refine with_tabW grid_Behind.tab9 grid_Behind.bits9 (fun HT_ HW_ => ?_)
                  generalize w21.drew = w22 at HO_5 HB GG20 HL229_0 HL230_0 HQ24 HR229_0 HR230_0 HX229_0 HX230_0 hf20_0 hx20_0 hx229_0 hx230_0 hx231_0 hHeld ⊢
                  refine pure_ (i := 0) (N := some 36) (v := ?_) (a' := ?_) #[Y,N,N,N,N,N,N,N,N,N,N,N,N,N,N,N,N] rfl rfl (any_of HT_.out (by kernel_rfl)) (fun _ _ _ h => h) (Or.inl ⟨by rfl, ?_⟩) ?_ ?_; rotate_left
                  ·intro w'; go_simp; with_reducible rfl
                  rotate_left
                  ·simp only [Act.put, sA,sB,sC, i64_w, i32_w]; rfl
                  refine pure_ (i := 1) (N := some 37) (v := ?_) (a' := ?_) #[Y,Y,N,N,N,N,N,N,N,N,N,N,N,N,N,N,N] rfl rfl (any_of HT_.out (by kernel_rfl)) (fun _ _ _ h => h) (Or.inl ⟨by rfl, ?_⟩) ?_ ?_; rotate_left
                  ·intro w'; go_simp; with_reducible rfl
                  rotate_left
                  ·simp only [Act.put, sA,sB,sC, i64_w, i32_w]; rfl
                  refine pure_ (i := 2) (N := some 38) (v := ?_) (a' := ?_) #[Y,Y,Y,N,N,N,N,N,N,N,N,N,N,N,N,N,N] rfl rfl (any_of HT_.out (by kernel_rfl)) (fun _ _ _ h => h) (Or.inl ⟨by rfl, ?_⟩) ?_ ?_; rotate_left
                  ·intro w'; go_simp; with_reducible rfl
                  rotate_left
                  ·simp only [Act.put, sA,sB,sC, i64_w, i32_w]; rfl
                  refine pure_ (i := 4) (N := some 40) (v := ?_) (a' := ?_) #[Y,Y,Y,N,Y,N,N,N,N,N,N,N,N,N,N,N,N] rfl rfl (any_of HT_.out (by kernel_rfl)) (fun _ _ _ h => h) (Or.inl ⟨by rfl, ?_⟩) ?_ ?_; rotate_left
                  ·intro w'; go_simp; with_reducible rfl
                  rotate_left
                  ·simp only [Act.put, sA,sB,sC, i64_w, i32_w]; rfl
                  refine pure_ (i := 5) (N := some 41) (v := ?_) (a' := ?_) #[Y,Y,Y,N,Y,Y,N,N,N,N,N,N,N,N,N,N,N] rfl rfl (any_of HT_.out (by kernel_rfl)) (fun _ _ _ h => h) (Or.inl ⟨by rfl, ?_⟩) ?_ ?_; rotate_left
                  ·intro w'; go_simp; with_reducible rfl
                  rotate_left
                  ·simp only [Act.put, sA,sB,sC, i64_w, i32_w]; rfl
                  refine pure_ (i := 6) (N := some 42) (v := ?_) (a' := ?_) #[Y,Y,Y,N,Y,Y,Y,N,N,N,N,N,N,N,N,N,N] rfl rfl (any_of HT_.out (by kernel_rfl)) (fun _ _ _ h => h) (Or.inl ⟨by rfl, ?_⟩) ?_ ?_; rotate_left
                  ·intro w'; go_simp; with_reducible rfl
                  rotate_left
                  ·simp only [Act.put, sA,sB,sC, i64_w, i32_w]; rfl
                  refine pure_ (i := 7) (N := some 43) (v := ?_) (a' := ?_) #[Y,Y,Y,N,Y,Y,Y,Y,N,N,N,N,N,N,N,N,N] rfl rfl (any_of HT_.out (by kernel_rfl)) (fun _ _ _ h => h) (Or.inl ⟨by rfl, ?_⟩) ?_ ?_; rotate_left
                  ·intro w'; go_simp; with_reducible rfl
                  rotate_left
                  ·simp only [Act.put, sA,sB,sC, i64_w, i32_w]; rfl
                  refine pure_ (i := 8) (N := some 44) (v := ?_) (a' := ?_) #[Y,Y,Y,N,Y,Y,Y,Y,Y,N,N,N,N,N,N,N,N] rfl rfl (any_of HT_.out (by kernel_rfl)) (fun _ _ _ h => h) (Or.inl ⟨by rfl, ?_⟩) ?_ ?_; rotate_left
                  ·intro w'; go_simp; with_reducible rfl
                  rotate_left
                  ·simp only [Act.put, sA,sB,sC, i64_w, i32_w]; rfl
                  refine pure_ (i := 10) (N := some 46) (v := ?_) (a' := ?_) #[Y,Y,Y,N,Y,Y,Y,Y,Y,N,Y,N,N,N,N,N,N] rfl rfl (any_of HT_.out (by kernel_rfl)) (fun _ _ _ h => h) (Or.inl ⟨by rfl, ?_⟩) ?_ ?_; rotate_left
                  ·intro w'; go_simp; with_reducible rfl
                  rotate_left
                  ·simp only [Act.put, sA,sB,sC, i64_w, i32_w]; rfl
                  refine pure_ (i := 11) (N := some 47) (v := ?_) (a' := ?_) #[Y,Y,Y,N,Y,Y,Y,Y,Y,N,Y,Y,N,N,N,N,N] rfl rfl (any_of HT_.out (by kernel_rfl)) (fun _ _ _ h => h) (Or.inl ⟨by rfl, ?_⟩) ?_ ?_; rotate_left
                  ·intro w'; go_simp; with_reducible rfl
                  rotate_left
                  ·simp only [Act.put, sA,sB,sC, i64_w, i32_w]; rfl
                  refine take_ (i := 3) (N := some 39) (v := ?_) (a' := ?_) #[Y,Y,Y,Y,Y,Y,Y,Y,Y,N,Y,Y,N,N,N,N,N] rfl rfl (take_ofW HT_.out HW_.out (by kernel_rfl)) (fun _ _ _ h => h) (Or.inl ⟨by rfl, ?_⟩) hHeld ?_ ?_; rotate_left
                  ·rintro w' ⟨s0, s1, s2⟩; go_simp; with_reducible rfl
                  rotate_left
                  ·simp only [Act.put, sA,sB,sC, i64_w, i32_w]; rfl
                  refine take_ (i := 9) (N := some 45) (v := ?_) (a' := ?_) #[Y,Y,Y,Y,Y,Y,Y,Y,Y,Y,Y,Y,N,N,N,N,N] rfl rfl (take_ofW HT_.out HW_.out (by kernel_rfl)) (fun _ _ _ h => h) (Or.inl ⟨by rfl, ?_⟩) hHeld ?_ ?_; rotate_left
                  ·rintro w' ⟨s0, s1, s2⟩; go_simp; with_reducible rfl
                  rotate_left
                  ·simp only [Act.put, sA,sB,sC, i64_w, i32_w]; rfl
                  refine pure_ (i := 12) (N := some 48) (v := ?_) (a' := ?_) #[Y,Y,Y,Y,Y,Y,Y,Y,Y,Y,Y,Y,Y,N,N,N,N] rfl rfl (any_of HT_.out (by kernel_rfl)) (fun _ _ _ h => h) (Or.inl ⟨by rfl, ?_⟩) ?_ ?_; rotate_left
                  ·intro w'; go_simp; with_reducible rfl
                  rotate_left
                  ·simp only [Act.put, sA,sB,sC, i64_w, i32_w]; rfl
                  refine take_ (i := 13) (N := some 49) (v := ?_) (a' := ?_) #[Y,Y,Y,Y,Y,Y,Y,Y,Y,Y,Y,Y,Y,Y,N,N,N] rfl rfl (take_ofW HT_.out HW_.out (by kernel_rfl)) (fun _ _ _ h => h) (Or.inl ⟨by rfl, ?_⟩) hHeld ?_ ?_; rotate_left
                  ·rintro w' ⟨s0, s1, s2⟩; go_simp; with_reducible rfl
                  rotate_left
                  ·simp only [Act.put, sA,sB,sC, i64_w, i32_w]; rfl
                  refine pure_ (i := 14) (N := some 50) (v := ?_) (a' := ?_) #[Y,Y,Y,Y,Y,Y,Y,Y,Y,Y,Y,Y,Y,Y,Y,N,N] rfl rfl (any_of HT_.out (by kernel_rfl)) (fun _ _ _ h => h) (Or.inl ⟨by rfl, ?_⟩) ?_ ?_; rotate_left
                  ·intro w'; go_simp; with_reducible rfl
                  rotate_left
                  ·simp only [Act.put, sA,sB,sC, i64_w, i32_w]; rfl
                  refine pure_ (i := 15) (N := some 51) (v := ?_) (a' := ?_) #[Y,Y,Y,Y,Y,Y,Y,Y,Y,Y,Y,Y,Y,Y,Y,Y,N] rfl rfl (any_of HT_.out (by kernel_rfl)) (fun _ _ _ h => h) (Or.inl ⟨by rfl, ?_⟩) ?_ ?_; rotate_left
                  ·intro w'; go_simp; with_reducible rfl
                  rotate_left
                  ·simp only [Act.put, sA,sB,sC, i64_w, i32_w]; rfl
                  refine last_ (i := 16) (N := none) #[Y,Y,Y,Y,Y,Y,Y,Y,Y,Y,Y,Y,Y,Y,Y,Y,Y] rfl rfl (one_of HT_.out (by kernel_rfl)) (by decide) (fun K hK => ?_)
                  refine skip_ (w1 := ?_) (by rfl) rfl ?_ ?_
                  rotate_left
                  ·go_simp; rfl
                  refine hK.out _ _ ?_
                  clear hK K
                  refine done_ (done_of HT_.out (by kernel_rfl)) ?_
                  try go_wp2
                  go_roundg k2
                  case measure => have := HK1.out; have := HK2.out; omega
                  case rel => exact ⟨(y234), (wrap64 (x7_2 - 1)), (by first | rfl | (simp; done) | (simp [*]; done)), H', ⟨by have := HK1.out; have := HK2.out; omega⟩, ⟨by (with_reducible repeat (first | apply Kd.S_alloc | apply Kd.S_drewN | apply Kd.S_drew)); exact HQ24.out⟩, ⟨by repeat (first | (with_reducible first | exact HB.out | apply below_alloc | apply pw_below_drewN | apply below_drew1 | refine below_set ?_ GB20.out) | exact HB.out)⟩⟩
                 ·rw [if_neg c19] at H
                  exact absurd H (by simp)
                ·rw [if_neg c18] at H
                 exact absurd H (by simp)
               ·rw [if_neg c17] at H
                exact absurd H (by simp)
              ·rw [if_neg c15] at H
               exact absurd H (by simp)
             ·rw [if_neg c14] at H
              exact absurd H (by simp)
            ·rw [if_neg c12] at H
             exact absurd H (by simp)
           ·rw [if_neg c11] at H
            have c11b0 : ((rd l0 x6_1) == (rd l1 x7_2)) = false := beq_eq_false_iff_ne.mpr c11
            have c11b1 : ((rd l0 x6_1) != (rd l1 x7_2)) = true := bne_iff_ne.mpr c11
            by_cases c26 : x6_1 < (x5_2.length : Int)
            ·rw [if_pos c26] at H
             have c26b0 : decide (x6_1 < (x5_2.length : Int)) = true := decide_eq_true c26
             clear c26
             obtain ⟨ji27, hji27⟩ : ∃ j_ : Int, (wrap64 (x6_1 + 1)) = j_ := ⟨_, rfl⟩
             replace H : (if 0 ≤ (ji27) then (if (ji27) < (x5_2.length : Int) then (if x7_2 < ((rd_L4 x5_2 (ji27)).length : Int) then (if 0 ≤ (wrap64 (x7_2 + 1)) then (if (wrap64 (x7_2 + 1)) < ((rd_L4 x5_2 x6_1).length : Int) then (if x7_2 < ((rd_L4 x5_2 x6_1).length : Int) then (grid_Behind.l1 k2 l0 l1 (x5_2.set (x6_1 : Int).toNat ((rd_L4 x5_2 x6_1).set (x7_2 : Int).toNat (mx (rd (rd_L4 x5_2 (ji27)) x7_2) (rd (rd_L4 x5_2 x6_1) (wrap64 (x7_2 + 1)))))) x6_1 (wrap64 (x7_2 - 1))) else (none)) else (none)) else (none)) else (none)) else (none)) else (none)) = some r := by first | (rw [hji27] at H; exact H) | (simp only [hji27] at H ⊢; exact H)
             have hji27w : (IntKind.i64.wrap (x6_1 + 1)) = ji27 := (i64_w _).trans hji27
             by_cases c28 : 0 ≤ (ji27)
             ·rw [if_pos c28] at H
              have c28b0 : decide (0 ≤ (ji27)) = true := decide_eq_true c28
              clear c28
              by_cases c29 : (ji27) < (x5_2.length : Int)
              ·rw [if_pos c29] at H
               have c29b0 : decide ((ji27) < (x5_2.length : Int)) = true := decide_eq_true c29
               clear c29
               by_cases c30 : x7_2 < ((rd_L4 x5_2 (ji27)).length : Int)
               ·rw [if_pos c30] at H
                have c30b0 : decide (x7_2 < ((rd_L4 x5_2 (ji27)).length : Int)) = true := decide_eq_true c30
                clear c30
                obtain ⟨ji31, hji31⟩ : ∃ j_ : Int, (wrap64 (x7_2 + 1)) = j_ := ⟨_, rfl⟩
                replace H : (if 0 ≤ (ji31) then (if (ji31) < ((rd_L4 x5_2 x6_1).length : Int) then (if x7_2 < ((rd_L4 x5_2 x6_1).length : Int) then (grid_Behind.l1 k2 l0 l1 (x5_2.set (x6_1 : Int).toNat ((rd_L4 x5_2 x6_1).set (x7_2 : Int).toNat (mx (rd (rd_L4 x5_2 (ji27)) x7_2) (rd (rd_L4 x5_2 x6_1) (ji31))))) x6_1 (wrap64 (x7_2 - 1))) else (none)) else (none)) else (none)) = some r := by first | (rw [hji31] at H; exact H) | (simp only [hji31] at H ⊢; exact H)
                have hji31w : (IntKind.i64.wrap (x7_2 + 1)) = ji31 := (i64_w _).trans hji31
                by_cases c32 : 0 ≤ (ji31)
                ·rw [if_pos c32] at H
                 have c32b0 : decide (0 ≤ (ji31)) = true := decide_eq_true c32
                 clear c32
                 by_cases c33 : (ji31) < ((rd_L4 x5_2 x6_1).length : Int)
                 ·rw [if_pos c33] at H
                  have c33b0 : decide ((ji31) < ((rd_L4 x5_2 x6_1).length : Int)) = true := decide_eq_true c33
                  clear c33
                  obtain ⟨ji34, hji34⟩ : ∃ j_ : Int, (mx (rd (rd_L4 x5_2 (ji27)) x7_2) (rd (rd_L4 x5_2 x6_1) (ji31))) = j_ := ⟨_, rfl⟩
                  replace H : (if x7_2 < ((rd_L4 x5_2 x6_1).length : Int) then (grid_Behind.l1 k2 l0 l1 (x5_2.set (x6_1 : Int).toNat ((rd_L4 x5_2 x6_1).set (x7_2 : Int).toNat (ji34))) x6_1 (wrap64 (x7_2 - 1))) else (none)) = some r := by first | (rw [hji34] at H; exact H) | (simp only [hji34] at H ⊢; exact H)
                  have hji34_ : (if (rd (rd_L4 x5_2 (ji27)) x7_2) < (rd (rd_L4 x5_2 x6_1) (ji31)) then (rd (rd_L4 x5_2 x6_1) (ji31)) else (rd (rd_L4 x5_2 (ji27)) x7_2)) = ji34 := hji34
                  by_cases c35 : x7_2 < ((rd_L4 x5_2 x6_1).length : Int)
                  ·rw [if_pos c35] at H
                   have c35b0 : decide (x7_2 < ((rd_L4 x5_2 x6_1).length : Int)) = true := decide_eq_true c35
                   clear c35
                   obtain ⟨y240, hy240⟩ : ∃ y_ : List Int, y_ = ((rd_L4 x5_2 x6_1).set (x7_2 : Int).toNat (ji34)) := ⟨_, rfl⟩
                   replace H : (grid_Behind.l1 k2 l0 l1 (x5_2.set (x6_1 : Int).toNat y240) x6_1 (wrap64 (x7_2 - 1))) = some r := by first | (rw [hy240]; with_reducible exact H) | (have H2_ := (Option.bind_some _ _).symm.trans H; rw [hy240]; with_reducible exact H2_) | (have H2_ := (Option.bind_some _ _).symm.trans H; with_reducible exact H2_) | with_reducible exact H | (rw [hy240]; exact H) | exact H
                   have Ny240 := Aside0.mk hy240
                   clear hy240
                   obtain ⟨y242, hy242⟩ : ∃ y_ : List (List Int), y_ = (x5_2.set (x6_1 : Int).toNat y240) := ⟨_, rfl⟩
                   replace H : (grid_Behind.l1 k2 l0 l1 y242 x6_1 (wrap64 (x7_2 - 1))) = some r := by first | (rw [hy242]; with_reducible exact H) | (have H2_ := (Option.bind_some _ _).symm.trans H; rw [hy242]; with_reducible exact H2_) | (have H2_ := (Option.bind_some _ _).symm.trans H; with_reducible exact H2_) | with_reducible exact H | (rw [hy242]; exact H) | exact H
                   have Ny242 := Aside0.mk hy242
                   clear hy242
                   have H' := Aside0.mk H
                   clear H
                   try go_wp2
                   have n0_ := Aside0.mk (Kd.S_drew HO_5.out)
                   have n1_ := Aside0.mk (below_drew1 HB.out)
                   clear HO_5
                   clear HB
                   have HO_5 := n0_
                   have HB := n1_
                   clear n0_ n1_
                   have p227 : 0 ≤ (x6_1 : Int) := of_decide_eq_true (by first | (with_reducible assumption) | assumption)
                   have q227 : x6_1 < (l0.length : Int) := of_decide_eq_true (by first | (with_reducible assumption) | assumption)
                   obtain ⟨ad227, e227, hx227_0⟩ := Kd.at_int HR0.out x6_1 p227 q227
                   have hw227_0 := hx227_0
                   cases e227
                   replace hx227_0 := (HB.out.cell (World.block_lt_of_cell? w _ hx227_0)).trans hx227_0
                   replace p227 := eq_true p227
                   replace q227 := eq_true q227
                   have p228 : 0 ≤ (x7_2 : Int) := of_decide_eq_true (by first | (with_reducible assumption) | assumption)
                   have q228 : x7_2 < (l1.length : Int) := of_decide_eq_true (by first | (with_reducible assumption) | assumption)
                   obtain ⟨ad228, e228, hx228_0⟩ := Kd.at_int HR1.out x7_2 p228 q228
                   have hw228_0 := hx228_0
                   cases e228
                   replace hx228_0 := (HB.out.cell (World.block_lt_of_cell? w _ hx228_0)).trans hx228_0
                   replace p228 := eq_true p228
                   replace q228 := eq_true q228
                   refine start_ (n := 9) (S := fun w' => w'.cell? (ad227.add (x6_1).toNat) = some (.int .i64 (rd l0 x6_1)) ∧ w'.cell? (ad228.add (x7_2).toNat) = some (.int .i64 (rd l1 x7_2))) (ds := []) #[N,N,N,N,N,N,N,N,N] (by kernel_rfl) rfl rfl ⟨((HB.out.cell (World.block_lt_of_cell? w _ hw227_0)).trans hw227_0), ((HB.out.cell (World.block_lt_of_cell? w _ hw228_0)).trans hw228_0)⟩ (fun hHeld => ?_); refine with_tabW grid_Behind.tab8 grid_Behind.bits8 (fun HT_ HW_ => ?_)
                   generalize wr.drew = w37 at HO_5 HB hx227_0 hx228_0 hHeld ⊢
                   refine pure_ (i := 0) (N := some 27) (v := ?_) (a' := ?_) #[Y,N,N,N,N,N,N,N,N] rfl rfl (any_of HT_.out (by kernel_rfl)) (fun _ _ _ h => h) (Or.inl ⟨by rfl, ?_⟩) ?_ ?_; rotate_left
                   ·intro w'; go_simp; with_reducible rfl
                   rotate_left
                   ·simp only [Act.put, sA,sB,sC, i64_w, i32_w]; rfl
                   refine pure_ (i := 1) (N := some 28) (v := ?_) (a' := ?_) #[Y,Y,N,N,N,N,N,N,N] rfl rfl (any_of HT_.out (by kernel_rfl)) (fun _ _ _ h => h) (Or.inl ⟨by rfl, ?_⟩) ?_ ?_; rotate_left
                   ·intro w'; go_simp; with_reducible rfl
                   rotate_left
                   ·simp only [Act.put, sA,sB,sC, i64_w, i32_w]; rfl
                   refine pure_ (i := 2) (N := some 29) (v := ?_) (a' := ?_) #[Y,Y,Y,N,N,N,N,N,N] rfl rfl (any_of HT_.out (by kernel_rfl)) (fun _ _ _ h => h) (Or.inl ⟨by rfl, ?_⟩) ?_ ?_; rotate_left
                   ·intro w'; go_simp; with_reducible rfl
                   rotate_left
                   ·simp only [Act.put, sA,sB,sC, i64_w, i32_w]; rfl
                   refine pure_ (i := 4) (N := some 31) (v := ?_) (a' := ?_) #[Y,Y,Y,N,Y,N,N,N,N] rfl rfl (any_of HT_.out (by kernel_rfl)) (fun _ _ _ h => h) (Or.inl ⟨by rfl, ?_⟩) ?_ ?_; rotate_left
                   ·intro w'; go_simp; with_reducible rfl
                   rotate_left
                   ·simp only [Act.put, sA,sB,sC, i64_w, i32_w]; rfl
                   refine pure_ (i := 5) (N := some 32) (v := ?_) (a' := ?_) #[Y,Y,Y,N,Y,Y,N,N,N] rfl rfl (any_of HT_.out (by kernel_rfl)) (fun _ _ _ h => h) (Or.inl ⟨by rfl, ?_⟩) ?_ ?_; rotate_left
                   ·intro w'; go_simp; with_reducible rfl
                   rotate_left
                   ·simp only [Act.put, sA,sB,sC, i64_w, i32_w]; rfl
                   refine pure_ (i := 6) (N := some 33) (v := ?_) (a' := ?_) #[Y,Y,Y,N,Y,Y,Y,N,N] rfl rfl (any_of HT_.out (by kernel_rfl)) (fun _ _ _ h => h) (Or.inl ⟨by rfl, ?_⟩) ?_ ?_; rotate_left
                   ·intro w'; go_simp; with_reducible rfl
                   rotate_left
                   ·simp only [Act.put, sA,sB,sC, i64_w, i32_w]; rfl
                   refine take_ (i := 3) (N := some 30) (v := ?_) (a' := ?_) #[Y,Y,Y,Y,Y,Y,Y,N,N] rfl rfl (take_ofW HT_.out HW_.out (by kernel_rfl)) (fun _ _ _ h => h) (Or.inl ⟨by rfl, ?_⟩) hHeld ?_ ?_; rotate_left
                   ·rintro w' ⟨s0, s1⟩; go_simp; with_reducible rfl
                   rotate_left
                   ·simp only [Act.put, sA,sB,sC, i64_w, i32_w]; rfl
                   refine take_ (i := 7) (N := some 34) (v := ?_) (a' := ?_) #[Y,Y,Y,Y,Y,Y,Y,Y,N] rfl rfl (take_ofW HT_.out HW_.out (by kernel_rfl)) (fun _ _ _ h => h) (Or.inl ⟨by rfl, ?_⟩) hHeld ?_ ?_; rotate_left
                   ·rintro w' ⟨s0, s1⟩; go_simp; with_reducible rfl
                   rotate_left
                   ·simp only [Act.put, sA,sB,sC, i64_w, i32_w]; rfl
                   refine pure_ (i := 8) (N := some 35) (v := ?_) (a' := ?_) #[Y,Y,Y,Y,Y,Y,Y,Y,Y] rfl rfl (any_of HT_.out (by kernel_rfl)) (fun _ _ _ h => h) (Or.inl ⟨by rfl, ?_⟩) ?_ ?_; rotate_left
                   ·intro w'; go_simp; with_reducible rfl
                   rotate_left
                   ·simp only [Act.put, sA,sB,sC, i64_w, i32_w]; rfl
                   refine done_ (done_of HT_.out (by kernel_rfl)) ?_
                   try go_wp2
                   have n0_ := Aside0.mk (Kd.S_drew HO_5.out)
                   have n1_ := Aside0.mk (below_drew1 HB.out)
                   clear HO_5
                   clear HB
                   have HO_5 := n0_
                   have HB := n1_
                   clear n0_ n1_
                   obtain ⟨Ao39, co39, eo39⟩ := Kd.S_slice HO_5.out
                   (first | subst eo39 | (injection eo39 with f1_ f2_ f3_; have f4_ := f1_.symm; have f5_ := f3_.symm; clear f1_ f2_ f3_; subst f4_; subst f5_))
                   have p235 : 0 ≤ (x6_1 : Int) := of_decide_eq_true (by first | (with_reducible assumption) | assumption)
                   have q235 : x6_1 < (x5_2.length : Int) := of_decide_eq_true (by first | (with_reducible assumption) | assumption)
                   try (obtain ⟨Ap235, cp235, ep235⟩ := Kd.S_slice HO_5.out; subst ep235)
                   obtain ⟨ad235, A235_0, c235_0, e235, hx235_0, hl235_0, hi235_0⟩ := at_L4 (Kd.S_reads' HO_5.out).2.2 x6_1 p235 q235
                   cases e235
                   obtain ⟨ce235, hce235, hMe235, hcc235⟩ := Kd.S_get HO_5.out [] x6_1 p235 (by first | exact q235 | exact of_decide_eq_true (by first | (with_reducible assumption) | assumption) | (have e_ := (Kd.S_reads' HO_5.out).1; omega))
                   obtain ⟨ve235_0, rfl, ge235_0⟩ := hMe235
                   have hv235_0 := hcc235 0 _ rfl
                   rw [Nat.add_zero, show ((Kd.slice 3 (Kd.int .i64))).sz = 1 from rfl, Nat.mul_one] at hv235_0
                   replace hv235_0 := Option.some.inj (hv235_0.symm.trans hx235_0)
                   rw [hv235_0] at ge235_0
                   have HL235_0 := Aside0.mk (show Kd.R (Kd.int .i64) 3 _ _ _ _ (rd_L4 x5_2 x6_1) from ge235_0)
                   clear hv235_0 ge235_0
                   have HX235_0 := Aside0.mk hx235_0
                   clear hcc235 hce235
                   have HR235_0 := Aside0.mk hi235_0
                   have HC235_0 := Aside0.mk hl235_0
                   clear hi235_0 hl235_0
                   replace p235 := eq_true p235
                   replace q235 := eq_true q235
                   have p236 : 0 ≤ ((ji27) : Int) := of_decide_eq_true (by first | (with_reducible assumption) | assumption)
                   have q236 : (ji27) < (x5_2.length : Int) := of_decide_eq_true (by first | (with_reducible assumption) | assumption)
                   try (obtain ⟨Ap236, cp236, ep236⟩ := Kd.S_slice HO_5.out; subst ep236)
                   obtain ⟨ad236, A236_0, c236_0, e236, hx236_0, hl236_0, hi236_0⟩ := at_L4 (Kd.S_reads' HO_5.out).2.2 (ji27) p236 q236
                   obtain rfl : ad235 = ad236 := (by injection e236)
                   obtain ⟨ce236, hce236, hMe236, hcc236⟩ := Kd.S_get HO_5.out [] (ji27) p236 (by first | exact q236 | exact of_decide_eq_true (by first | (with_reducible assumption) | assumption) | (have e_ := (Kd.S_reads' HO_5.out).1; omega))
                   obtain ⟨ve236_0, rfl, ge236_0⟩ := hMe236
                   have hv236_0 := hcc236 0 _ rfl
                   rw [Nat.add_zero, show ((Kd.slice 3 (Kd.int .i64))).sz = 1 from rfl, Nat.mul_one] at hv236_0
                   replace hv236_0 := Option.some.inj (hv236_0.symm.trans hx236_0)
                   rw [hv236_0] at ge236_0
                   have HL236_0 := Aside0.mk (show Kd.R (Kd.int .i64) 3 _ _ _ _ (rd_L4 x5_2 (ji27)) from ge236_0)
                   clear hv236_0 ge236_0
                   have HX236_0 := Aside0.mk hx236_0
                   clear hcc236 hce236
                   have HR236_0 := Aside0.mk hi236_0
                   have HC236_0 := Aside0.mk hl236_0
                   clear hi236_0 hl236_0
                   replace p236 := eq_true p236
                   replace q236 := eq_true q236
                   have p237 : 0 ≤ (x7_2 : Int) := of_decide_eq_true (by first | (with_reducible assumption) | assumption)
                   have q237 : x7_2 < ((rd_L4 x5_2 (ji27)).length : Int) := of_decide_eq_true (by first | (with_reducible assumption) | assumption)
                   obtain ⟨ad237, e237, hx237_0⟩ := Kd.at_int (by repeat (first | (with_reducible exact HR236_0.out) | (with_reducible refine Kd.C_alloc ?_ _) | (with_reducible refine Kd.C_drewN ?_ _) | (with_reducible refine Kd.C_drew ?_) | exact HR236_0.out)) x7_2 p237 q237
                   cases e237
                   replace p237 := eq_true p237
                   replace q237 := eq_true q237
                   have p238 : 0 ≤ (x6_1 : Int) := of_decide_eq_true (by first | (with_reducible assumption) | assumption)
                   have q238 : x6_1 < (x5_2.length : Int) := of_decide_eq_true (by first | (with_reducible assumption) | assumption)
                   try (obtain ⟨Ap238, cp238, ep238⟩ := Kd.S_slice HO_5.out; subst ep238)
                   obtain ⟨ad238, A238_0, c238_0, e238, hx238_0, hl238_0, hi238_0⟩ := at_L4 (Kd.S_reads' HO_5.out).2.2 x6_1 p238 q238
                   obtain rfl : ad235 = ad238 := (by injection e238)
                   obtain ⟨ce238, hce238, hMe238, hcc238⟩ := Kd.S_get HO_5.out [] x6_1 p238 (by first | exact q238 | exact of_decide_eq_true (by first | (with_reducible assumption) | assumption) | (have e_ := (Kd.S_reads' HO_5.out).1; omega))
                   obtain ⟨ve238_0, rfl, ge238_0⟩ := hMe238
                   have hv238_0 := hcc238 0 _ rfl
                   rw [Nat.add_zero, show ((Kd.slice 3 (Kd.int .i64))).sz = 1 from rfl, Nat.mul_one] at hv238_0
                   replace hv238_0 := Option.some.inj (hv238_0.symm.trans hx238_0)
                   rw [hv238_0] at ge238_0
                   have HL238_0 := Aside0.mk (show Kd.R (Kd.int .i64) 3 _ _ _ _ (rd_L4 x5_2 x6_1) from ge238_0)
                   clear hv238_0 ge238_0
                   have HX238_0 := Aside0.mk hx238_0
                   clear hcc238 hce238
                   have HR238_0 := Aside0.mk hi238_0
                   have HC238_0 := Aside0.mk hl238_0
                   clear hi238_0 hl238_0
                   replace p238 := eq_true p238
                   replace q238 := eq_true q238
                   have ea_ := Option.some.inj (hx235_0.symm.trans hx238_0)
                   injection ea_ with ea_ en_ ec_
                   subst ea_
                   subst ec_
                   clear en_
                   have p239 : 0 ≤ ((ji31) : Int) := of_decide_eq_true (by first | (with_reducible assumption) | assumption)
                   have q239 : (ji31) < ((rd_L4 x5_2 x6_1).length : Int) := of_decide_eq_true (by first | (with_reducible assumption) | assumption)
                   obtain ⟨ad239, e239, hx239_0⟩ := Kd.at_int (by repeat (first | (with_reducible exact HR238_0.out) | (with_reducible refine Kd.C_alloc ?_ _) | (with_reducible refine Kd.C_drewN ?_ _) | (with_reducible refine Kd.C_drew ?_) | exact HR238_0.out)) (ji31) p239 q239
                   cases e239
                   replace p239 := eq_true p239
                   replace q239 := eq_true q239
                   have p36 : 0 ≤ (x7_2 : Int) := of_decide_eq_true (by first | (with_reducible assumption) | assumption)
                   have q36 : (x7_2 : Int) < (((rd_L4 x5_2 x6_1).length : Int) : Int) := of_decide_eq_true (by first | (with_reducible assumption) | assumption)
                   obtain ⟨go36, co36, eo36, gb36, gl36, cl36, HG36⟩ := Kd.R_form HL235_0.out (by omega)
                   (first | cases eo36 | (injection eo36 with ea_ en_ ec_; (first | subst ea_ | (injection ea_ with ea_; subst ea_)); subst ec_; clear en_))
                   have GB36 := Aside0.mk gb36
                   have GG36 := Aside0.mk HG36
                   clear gb36 gl36 HG36
                   (first | simp only [add_plain] at hx239_0 | skip)
                   obtain ⟨hx36_0, hf36_0⟩ := Kd.R_celln 0 HL235_0.out (x7_2 : Int) p36 q36
                   replace p36 := eq_true p36
                   replace q36 := eq_true q36
                   have hq40 : (x6_1 : Int) < (x5_2.length : Int) := (by have h_ : (x6_1 : Int) < ((x5_2.length : Int) : Int) := of_decide_eq_true (by first | (with_reducible assumption) | assumption); first | exact h_ | (have e_ := (Kd.S_reads' HO_5.out).1; omega) | simpa only [List.length_set, List.length_set] using h_)
                   obtain ⟨oki40, ce40, hcl40, hM40, hcc40, hok40, hbk40⟩ := Kd.S_borrow HO_5.out [] (x6_1 : Int) (of_decide_eq_true (by first | (with_reducible assumption) | assumption)) hq40
                   obtain ⟨ve40_0, rfl, ge40_0⟩ := hM40
                   have hv40 := hcc40 0 _ rfl
                   rw [Nat.add_zero, show ((Kd.slice 3 (Kd.int .i64))).sz = 1 from rfl, Nat.mul_one] at hv40
                   replace hv40 := Option.some.inj (hv40.symm.trans HX235_0.out)
                   subst hv40
                   clear hcc40 hcl40
                   replace ge40_0 := (show Kd.R (Kd.int .i64) 3 _ _ _ _ (rd_L4 x5_2 x6_1) from ge40_0)
                   have HP40 := Kd.R_putg ge40_0 (x7_2 : Int) ji34
                   rw [← Ny240.out] at HP40
                   have HS40 := hbk40 HP40.2 (fun k_ e_ => by injection e_ with e_; subst e_; exact ge40_0.1 _ rfl) (x' := y240) (Kd.M_row HP40.1)
                   rw [← Ny242.out] at HS40
                   have HQ40 := Aside0.mk HS40
                   clear HP40 HS40 hbk40 hok40
                   refine start_ (n := 24) (S := fun w' => w'.cell? (ad235.add (x6_1).toNat) = some (.slice (some ⟨go36, 0, none⟩) (rd_L4 x5_2 x6_1).length c235_0) ∧ w'.cell? (ad235.add ((ji27)).toNat) = some (.slice (some ad237) (rd_L4 x5_2 (ji27)).length c236_0) ∧ w'.cell? (ad237.add (x7_2).toNat) = some (.int .i64 (rd (rd_L4 x5_2 (ji27)) x7_2)) ∧ w'.cell? (ad235.add (x6_1).toNat) = some (.slice (some ⟨go36, 0, none⟩) (rd_L4 x5_2 x6_1).length c235_0) ∧ w'.cell? ⟨go36, ((ji31)).toNat, none⟩ = some (.int .i64 (rd (rd_L4 x5_2 x6_1) (ji31)))) (ds := [23]) #[N,N,N,N,N,N,N,N,N,N,N,N,N,N,N,N,N,N,N,N,N,N,N,N] (by kernel_rfl) rfl rfl ⟨hx235_0, hx236_0, hx237_0, hx238_0, hx239_0⟩ (fun hHeld => ?_); refine with_tabW grid_Behind.tab10 grid_Behind.bits10 (fun HT_ HW_ => ?_)
                   generalize w37.drew = w38 at HO_5 HB GG36 HL235_0 HL236_0 HL238_0 HQ40 HR235_0 HR236_0 HR238_0 HX235_0 HX236_0 HX238_0 hf36_0 hx235_0 hx236_0 hx237_0 hx238_0 hx239_0 hx36_0 hHeld ⊢
                   refine pure_ (i := 0) (N := some 52) (v := ?_) (a' := ?_) #[Y,N,N,N,N,N,N,N,N,N,N,N,N,N,N,N,N,N,N,N,N,N,N,N] rfl rfl (any_of HT_.out (by kernel_rfl)) (fun _ _ _ h => h) (Or.inl ⟨by rfl, ?_⟩) ?_ ?_; rotate_left
                   ·intro w'; go_simp; with_reducible rfl
                   rotate_left
                   ·simp only [Act.put, sA,sB,sC, i64_w, i32_w]; rfl
                   refine pure_ (i := 1) (N := some 53) (v := ?_) (a' := ?_) #[Y,Y,N,N,N,N,N,N,N,N,N,N,N,N,N,N,N,N,N,N,N,N,N,N] rfl rfl (any_of HT_.out (by kernel_rfl)) (fun _ _ _ h => h) (Or.inl ⟨by rfl, ?_⟩) ?_ ?_; rotate_left
                   ·intro w'; go_simp; with_reducible rfl
                   rotate_left
                   ·simp only [Act.put, sA,sB,sC, i64_w, i32_w]; rfl
                   refine pure_ (i := 2) (N := some 54) (v := ?_) (a' := ?_) #[Y,Y,Y,N,N,N,N,N,N,N,N,N,N,N,N,N,N,N,N,N,N,N,N,N] rfl rfl (any_of HT_.out (by kernel_rfl)) (fun _ _ _ h => h) (Or.inl ⟨by rfl, ?_⟩) ?_ ?_; rotate_left
                   ·intro w'; go_simp; with_reducible rfl
                   rotate_left
                   ·simp only [Act.put, sA,sB,sC, i64_w, i32_w]; rfl
                   refine pure_ (i := 4) (N := some 56) (v := ?_) (a' := ?_) #[Y,Y,Y,N,Y,N,N,N,N,N,N,N,N,N,N,N,N,N,N,N,N,N,N,N] rfl rfl (any_of HT_.out (by kernel_rfl)) (fun _ _ _ h => h) (Or.inl ⟨by rfl, ?_⟩) ?_ ?_; rotate_left
                   ·intro w'; go_simp; with_reducible rfl
                   rotate_left
                   ·simp only [Act.put, sA,sB,sC, i64_w, i32_w]; rfl
                   refine pure_ (i := 5) (N := some 57) (v := ?_) (a' := ?_) #[Y,Y,Y,N,Y,Y,N,N,N,N,N,N,N,N,N,N,N,N,N,N,N,N,N,N] rfl rfl (any_of HT_.out (by kernel_rfl)) (fun _ _ _ h => h) (Or.inl ⟨by rfl, ?_⟩) ?_ ?_; rotate_left
                   ·intro w'; go_simp; with_reducible rfl
                   rotate_left
                   ·simp only [Act.put, sA,sB,sC, i64_w, i32_w]; rfl
                   refine pure_ (i := 6) (N := some 58) (v := ?_) (a' := ?_) #[Y,Y,Y,N,Y,Y,Y,N,N,N,N,N,N,N,N,N,N,N,N,N,N,N,N,N] rfl rfl (any_of HT_.out (by kernel_rfl)) (fun _ _ _ h => h) (Or.inl ⟨by rfl, ?_⟩) ?_ ?_; rotate_left
                   ·intro w'; go_simp; with_reducible rfl
                   rotate_left
                   ·simp only [Act.put, sA,sB,sC, i64_w, i32_w]; rfl
                   refine pure_ (i := 7) (N := some 59) (v := ?_) (a' := ?_) #[Y,Y,Y,N,Y,Y,Y,Y,N,N,N,N,N,N,N,N,N,N,N,N,N,N,N,N] rfl rfl (any_of HT_.out (by kernel_rfl)) (fun _ _ _ h => h) (Or.inl ⟨by rfl, ?_⟩) ?_ ?_; rotate_left
                   ·intro w'; go_simp; with_reducible rfl
                   rotate_left
                   ·simp only [Act.put, sA,sB,sC, i64_w, i32_w]; rfl
                   refine pure_ (i := 8) (N := some 60) (v := ?_) (a' := ?_) #[Y,Y,Y,N,Y,Y,Y,Y,Y,N,N,N,N,N,N,N,N,N,N,N,N,N,N,N] rfl rfl (any_of HT_.out (by kernel_rfl)) (fun _ _ _ h => h) (Or.inl ⟨by rfl, ?_⟩) ?_ ?_; rotate_left
                   ·intro w'; go_simp; with_reducible rfl
                   rotate_left
                   ·simp only [Act.put, sA,sB,sC, i64_w, i32_w]; rfl
                   refine pure_ (i := 10) (N := some 62) (v := ?_) (a' := ?_) #[Y,Y,Y,N,Y,Y,Y,Y,Y,N,Y,N,N,N,N,N,N,N,N,N,N,N,N,N] rfl rfl (any_of HT_.out (by kernel_rfl)) (fun _ _ _ h => h) (Or.inl ⟨by rfl, ?_⟩) ?_ ?_; rotate_left
                   ·intro w'; go_simp; with_reducible rfl
                   rotate_left
                   ·simp only [Act.put, sA,sB,sC, i64_w, i32_w]; rfl
                   refine pure_ (i := 13) (N := some 65) (v := ?_) (a' := ?_) #[Y,Y,Y,N,Y,Y,Y,Y,Y,N,Y,N,N,Y,N,N,N,N,N,N,N,N,N,N] rfl rfl (any_of HT_.out (by kernel_rfl)) (fun _ _ _ h => h) (Or.inl ⟨by rfl, ?_⟩) ?_ ?_; rotate_left
                   ·intro w'; go_simp; with_reducible rfl
                   rotate_left
                   ·simp only [Act.put, sA,sB,sC, i64_w, i32_w]; rfl
                   refine pure_ (i := 14) (N := some 66) (v := ?_) (a' := ?_) #[Y,Y,Y,N,Y,Y,Y,Y,Y,N,Y,N,N,Y,Y,N,N,N,N,N,N,N,N,N] rfl rfl (any_of HT_.out (by kernel_rfl)) (fun _ _ _ h => h) (Or.inl ⟨by rfl, ?_⟩) ?_ ?_; rotate_left
                   ·intro w'; go_simp; with_reducible rfl
                   rotate_left
                   ·simp only [Act.put, sA,sB,sC, i64_w, i32_w]; rfl
                   refine pure_ (i := 15) (N := some 67) (v := ?_) (a' := ?_) #[Y,Y,Y,N,Y,Y,Y,Y,Y,N,Y,N,N,Y,Y,Y,N,N,N,N,N,N,N,N] rfl rfl (any_of HT_.out (by kernel_rfl)) (fun _ _ _ h => h) (Or.inl ⟨by rfl, ?_⟩) ?_ ?_; rotate_left
                   ·intro w'; go_simp; with_reducible rfl
                   rotate_left
                   ·simp only [Act.put, sA,sB,sC, i64_w, i32_w]; rfl
                   refine pure_ (i := 17) (N := some 69) (v := ?_) (a' := ?_) #[Y,Y,Y,N,Y,Y,Y,Y,Y,N,Y,N,N,Y,Y,Y,N,Y,N,N,N,N,N,N] rfl rfl (any_of HT_.out (by kernel_rfl)) (fun _ _ _ h => h) (Or.inl ⟨by rfl, ?_⟩) ?_ ?_; rotate_left
                   ·intro w'; go_simp; with_reducible rfl
                   rotate_left
                   ·simp only [Act.put, sA,sB,sC, i64_w, i32_w]; rfl
                   refine pure_ (i := 18) (N := some 70) (v := ?_) (a' := ?_) #[Y,Y,Y,N,Y,Y,Y,Y,Y,N,Y,N,N,Y,Y,Y,N,Y,Y,N,N,N,N,N] rfl rfl (any_of HT_.out (by kernel_rfl)) (fun _ _ _ h => h) (Or.inl ⟨by rfl, ?_⟩) ?_ ?_; rotate_left
                   ·intro w'; go_simp; with_reducible rfl
                   rotate_left
                   ·simp only [Act.put, sA,sB,sC, i64_w, i32_w]; rfl
                   refine take_ (i := 3) (N := some 55) (v := ?_) (a' := ?_) #[Y,Y,Y,Y,Y,Y,Y,Y,Y,N,Y,N,N,Y,Y,Y,N,Y,Y,N,N,N,N,N] rfl rfl (take_ofW HT_.out HW_.out (by kernel_rfl)) (fun _ _ _ h => h) (Or.inl ⟨by rfl, ?_⟩) hHeld ?_ ?_; rotate_left
                   ·rintro w' ⟨s0, s1, s2, s3, s4⟩; go_simp; with_reducible rfl
                   rotate_left
                   ·simp only [Act.put, sA,sB,sC, i64_w, i32_w]; rfl
                   refine take_ (i := 9) (N := some 61) (v := ?_) (a' := ?_) #[Y,Y,Y,Y,Y,Y,Y,Y,Y,Y,Y,N,N,Y,Y,Y,N,Y,Y,N,N,N,N,N] rfl rfl (take_ofW HT_.out HW_.out (by kernel_rfl)) (fun _ _ _ h => h) (Or.inl ⟨by rfl, ?_⟩) hHeld ?_ ?_; rotate_left
                   ·rintro w' ⟨s0, s1, s2, s3, s4⟩; go_simp; with_reducible rfl
                   rotate_left
                   ·simp only [Act.put, sA,sB,sC, i64_w, i32_w]; rfl
                   refine pure_ (i := 11) (N := some 63) (v := ?_) (a' := ?_) #[Y,Y,Y,Y,Y,Y,Y,Y,Y,Y,Y,Y,N,Y,Y,Y,N,Y,Y,N,N,N,N,N] rfl rfl (any_of HT_.out (by kernel_rfl)) (fun _ _ _ h => h) (Or.inl ⟨by rfl, ?_⟩) ?_ ?_; rotate_left
                   ·intro w'; go_simp; with_reducible rfl
                   rotate_left
                   ·simp only [Act.put, sA,sB,sC, i64_w, i32_w]; rfl
                   refine take_ (i := 12) (N := some 64) (v := ?_) (a' := ?_) #[Y,Y,Y,Y,Y,Y,Y,Y,Y,Y,Y,Y,Y,Y,Y,Y,N,Y,Y,N,N,N,N,N] rfl rfl (take_ofW HT_.out HW_.out (by kernel_rfl)) (fun _ _ _ h => h) (Or.inl ⟨by rfl, ?_⟩) hHeld ?_ ?_; rotate_left
                   ·rintro w' ⟨s0, s1, s2, s3, s4⟩; go_simp; with_reducible rfl
                   rotate_left
                   ·simp only [Act.put, sA,sB,sC, i64_w, i32_w]; rfl
                   refine take_ (i := 16) (N := some 68) (v := ?_) (a' := ?_) #[Y,Y,Y,Y,Y,Y,Y,Y,Y,Y,Y,Y,Y,Y,Y,Y,Y,Y,Y,N,N,N,N,N] rfl rfl (take_ofW HT_.out HW_.out (by kernel_rfl)) (fun _ _ _ h => h) (Or.inl ⟨by rfl, ?_⟩) hHeld ?_ ?_; rotate_left
                   ·rintro w' ⟨s0, s1, s2, s3, s4⟩; go_simp; with_reducible rfl
                   rotate_left
                   ·simp only [Act.put, sA,sB,sC, i64_w, i32_w]; rfl
                   refine pure_ (i := 19) (N := some 71) (v := ?_) (a' := ?_) #[Y,Y,Y,Y,Y,Y,Y,Y,Y,Y,Y,Y,Y,Y,Y,Y,Y,Y,Y,Y,N,N,N,N] rfl rfl (any_of HT_.out (by kernel_rfl)) (fun _ _ _ h => h) (Or.inl ⟨by rfl, ?_⟩) ?_ ?_; rotate_left
                   ·intro w'; go_simp; with_reducible rfl
                   rotate_left
                   ·simp only [Act.put, sA,sB,sC, i64_w, i32_w]; rfl
                   refine take_ (i := 20) (N := some 72) (v := ?_) (a' := ?_) #[Y,Y,Y,Y,Y,Y,Y,Y,Y,Y,Y,Y,Y,Y,Y,Y,Y,Y,Y,Y,Y,N,N,N] rfl rfl (take_ofW HT_.out HW_.out (by kernel_rfl)) (fun _ _ _ h => h) (Or.inl ⟨by rfl, ?_⟩) hHeld ?_ ?_; rotate_left
                   ·rintro w' ⟨s0, s1, s2, s3, s4⟩; go_simp; with_reducible rfl
                   rotate_left
                   ·simp only [Act.put, sA,sB,sC, i64_w, i32_w]; rfl
                   refine pure_ (i := 21) (N := some 73) (v := ?_) (a' := ?_) #[Y,Y,Y,Y,Y,Y,Y,Y,Y,Y,Y,Y,Y,Y,Y,Y,Y,Y,Y,Y,Y,Y,N,N] rfl rfl (any_of HT_.out (by kernel_rfl)) (fun _ _ _ h => h) (Or.inl ⟨by rfl, ?_⟩) ?_ ?_; rotate_left
                   ·intro w'; go_simp; with_reducible rfl
                   rotate_left
                   ·simp only [Act.put, sA,sB,sC, i64_w, i32_w]; rfl
                   refine pure_ (i := 22) (N := some 74) (v := ?_) (a' := ?_) #[Y,Y,Y,Y,Y,Y,Y,Y,Y,Y,Y,Y,Y,Y,Y,Y,Y,Y,Y,Y,Y,Y,Y,N] rfl rfl (any_of HT_.out (by kernel_rfl)) (fun _ _ _ h => h) (Or.inl ⟨by rfl, ?_⟩) ?_ ?_; rotate_left
                   ·intro w'; go_simp; with_reducible rfl
                   rotate_left
                   ·simp only [Act.put, sA,sB,sC, i64_w, i32_w]; rfl
                   refine last_ (i := 23) (N := none) #[Y,Y,Y,Y,Y,Y,Y,Y,Y,Y,Y,Y,Y,Y,Y,Y,Y,Y,Y,Y,Y,Y,Y,Y] rfl rfl (one_of HT_.out (by kernel_rfl)) (by decide) (fun K hK => ?_)
                   refine skip_ (w1 := ?_) (by rfl) rfl ?_ ?_
                   rotate_left
                   ·go_simp; rfl
                   refine hK.out _ _ ?_
                   clear hK K
                   refine done_ (done_of HT_.out (by kernel_rfl)) ?_
                   try go_wp2
                   go_roundg k2
                   case measure => have := HK1.out; have := HK2.out; omega
                   case rel => exact ⟨(y242), (wrap64 (x7_2 - 1)), (by first | rfl | (simp; done) | (simp [*]; done)), H', ⟨by have := HK1.out; have := HK2.out; omega⟩, ⟨by (with_reducible repeat (first | apply Kd.S_alloc | apply Kd.S_drewN | apply Kd.S_drew)); exact HQ40.out⟩, ⟨by repeat (first | (with_reducible first | exact HB.out | apply below_alloc | apply pw_below_drewN | apply below_drew1 | refine below_set ?_ GB36.out) | exact HB.out)⟩⟩
                  ·rw [if_neg c35] at H
                   exact absurd H (by simp)
                 ·rw [if_neg c33] at H
                  exact absurd H (by simp)
                ·rw [if_neg c32] at H
                 exact absurd H (by simp)
               ·rw [if_neg c30] at H
                exact absurd H (by simp)
              ·rw [if_neg c29] at H
               exact absurd H (by simp)
             ·rw [if_neg c28] at H
              exact absurd H (by simp)
            ·rw [if_neg c26] at H
             exact absurd H (by simp)
          ·rw [if_neg c10] at H
           exact absurd H (by simp)
         ·rw [if_neg c9] at H
          exact absurd H (by simp)
        ·rw [if_neg c8] at H
         exact absurd H (by simp)
       ·rw [if_neg c7] at H
        exact absurd H (by simp)
      ·rw [if_neg c6] at H
       have c6b0 : decide (0 ≤ x7_2) = false := decide_eq_false c6
       clear c6
       have H' := Aside0.mk H
       clear H
       go_wp2
       go_roundg k2
       case measure => have := HK1.out; have := HK2.out; omega
       case rel => exact ⟨(x5_2), (wrap64 (x6_1 - 1)), (by first | rfl | (simp; done) | (simp [*]; done)), H', ⟨by have := HK1.out; have := HK2.out; omega⟩, ⟨by (with_reducible repeat (first | apply Kd.S_alloc | apply Kd.S_drewN | apply Kd.S_drew)); exact HO_5.out⟩, ⟨by repeat (first | (with_reducible first | exact HB.out | apply below_alloc | apply pw_below_drewN | apply below_drew1) | exact HB.out)⟩⟩
   ·rw [if_neg c5] at H
    have c5b0 : decide (0 ≤ x6_1) = false := decide_eq_false c5
    clear c5
    obtain rfl := Option.some.inj H
    go_wp2
    go_ret
    exact ⟨_, by first | rfl | (simp [errW_none, errW_some] <;> rfl) | (simp [*, errW_none, errW_some] <;> rfl), by (with_reducible repeat (first | apply Kd.S_alloc | apply Kd.S_drewN | apply Kd.S_drew)); exact HO_5.out, by repeat (first | (with_reducible first | exact HB.out | apply below_alloc | apply pw_below_drewN | apply below_drew1) | exact HB.out)⟩
mutual
def grid_Run.l0 : Nat → List Int → List Int → List (List Int) → List (S54) → Int → Int → Option ((List (S54)) × Int)
 | 0, _, _, _, _, _, _ => none
 | k + 1, x0, x1, x6, x7, x8, x9 => if x8 < (x0.length : Int) then (grid_Run.j1 k x0 x1 x6 x7 x8 x9 (decide (x9 < (x1.length : Int)))) else (grid_Run.j1 k x0 x1 x6 x7 x8 x9 false)
def grid_Run.j1 : Nat → List Int → List Int → List (List Int) → List (S54) → Int → Int → Bool → Option ((List (S54)) × Int)
 | 0, _, _, _, _, _, _, _ => none
 | k + 1, x0, x1, x6, x7, x8, x9, x22 => if x22 = true then (if 0 ≤ x8 then (if x8 < (x0.length : Int) then (if 0 ≤ x9 then (if x9 < (x1.length : Int) then (if (rd x0 x8) = (rd x1 x9) then (if x7.length < 8796093022208 then (grid_Run.l0 k x0 x1 x6 (x7 ++ [(⟨x8, x9⟩ : S54)]) (wrap64 (x8 + 1)) (wrap64 (x9 + 1))) else (none)) else (if 0 ≤ (wrap64 (x8 + 1)) then (if (wrap64 (x8 + 1)) < (x6.length : Int) then (if x9 < ((rd_L4 x6 (wrap64 (x8 + 1))).length : Int) then (if x8 < (x6.length : Int) then (if 0 ≤ (wrap64 (x9 + 1)) then (if (wrap64 (x9 + 1)) < ((rd_L4 x6 x8).length : Int) then (if (rd (rd_L4 x6 (wrap64 (x8 + 1))) x9) ≥ (rd (rd_L4 x6 x8) (wrap64 (x9 + 1))) then (grid_Run.l0 k x0 x1 x6 x7 (wrap64 (x8 + 1)) x9) else (grid_Run.l0 k x0 x1 x6 x7 x8 (wrap64 (x9 + 1)))) else (none)) else (none)) else (none)) else (none)) else (none)) else (none))) else (none)) else (none)) else (none)) else (none)) else (some (x7, wrap64 ((x0.length : Int) * (x1.length : Int))))
end
def grid_Run.f (k : Nat) (l0 : List Int) (l1 : List Int) : Option ((List (S54)) × Int) := (grid_Behind.f k l0 l1).bind fun t243 => (grid_Run.l0 k l0 l1 t243 ([] : List (S54)) 0 0)
theorem grid_Run.mono_l : ∀ k, (∀ y0 y1 y2 y3 y4 y5, LeO (grid_Run.l0 k y0 y1 y2 y3 y4 y5) (grid_Run.l0 (k + 1) y0 y1 y2 y3 y4 y5)) ∧ (∀ y0 y1 y2 y3 y4 y5 y6, LeO (grid_Run.j1 k y0 y1 y2 y3 y4 y5 y6) (grid_Run.j1 (k + 1) y0 y1 y2 y3 y4 y5 y6))
 | 0 => ⟨fun _ _ _ _ _ _ r h => by simp [grid_Run.l0] at h, fun _ _ _ _ _ _ _ r h => by simp [grid_Run.j1] at h⟩
 | k + 1 => by
  obtain ⟨ih0, ih1⟩ := grid_Run.mono_l k
  refine ⟨?_, ?_⟩
  ·intro y0 y1 y2 y3 y4 y5
   unfold grid_Run.l0
   repeat' first
   | (with_reducible exact ih0 _ _ _ _ _ _)
   | (with_reducible exact ih1 _ _ _ _ _ _ _)
   | (with_reducible exact grid_Behind.mono _ _ _)
   | (with_reducible exact LeO.refl _)
   | (with_reducible exact LeO.none _)
   | (with_reducible refine LeO.ite ?_ ?_)
   | (with_reducible refine LeO.bind ?_ (fun _ => ?_))
   | exact ih0 _ _ _ _ _ _
   | exact ih1 _ _ _ _ _ _ _
   | exact grid_Behind.mono _ _ _
   | exact LeO.none _
   | refine LeO.ite ?_ ?_
   | refine LeO.bind ?_ (fun _ => ?_)
  ·intro y0 y1 y2 y3 y4 y5 y6
   unfold grid_Run.j1
   repeat' first
   | (with_reducible exact ih0 _ _ _ _ _ _)
   | (with_reducible exact ih1 _ _ _ _ _ _ _)
   | (with_reducible exact grid_Behind.mono _ _ _)
   | (with_reducible exact LeO.refl _)
   | (with_reducible exact LeO.none _)
   | (with_reducible refine LeO.ite ?_ ?_)
   | (with_reducible refine LeO.bind ?_ (fun _ => ?_))
   | exact ih0 _ _ _ _ _ _
   | exact ih1 _ _ _ _ _ _ _
   | exact grid_Behind.mono _ _ _
   | exact LeO.none _
   | refine LeO.ite ?_ ?_
   | refine LeO.bind ?_ (fun _ => ?_)
theorem grid_Run.mono : ∀ a0 a1 k, LeO (grid_Run.f k a0 a1) (grid_Run.f (k + 1) a0 a1) := by
 intro a0 a1 k
 obtain ⟨ih0, ih1⟩ := grid_Run.mono_l k
 unfold grid_Run.f
 repeat' first
   | (with_reducible exact ih0 _ _ _ _ _ _)
   | (with_reducible exact ih1 _ _ _ _ _ _ _)
   | (with_reducible exact grid_Behind.mono _ _ _)
   | (with_reducible exact LeO.refl _)
   | (with_reducible exact LeO.none _)
   | (with_reducible refine LeO.ite ?_ ?_)
   | (with_reducible refine LeO.bind ?_ (fun _ => ?_))
   | exact ih0 _ _ _ _ _ _
   | exact ih1 _ _ _ _ _ _ _
   | exact grid_Behind.mono _ _ _
   | exact LeO.none _
   | refine LeO.ite ?_ ?_
   | refine LeO.bind ?_ (fun _ => ?_)
set_option maxHeartbeats 8000000 in
set_option maxRecDepth 100000 in
theorem grid_Run.calls (k : Nat) (A0 : Option Addr) (c0 : Nat) (l0 : List Int) (A1 : Option Addr) (c1 : Nat) (l1 : List Int) (r1 : List (S54)) (r2 : Int) (w : World) (hr0 : Kd.C (Kd.int .i64) w A0 l0.length l0) (hc0 : l0.length ≤ c0) (hr1 : Kd.C (Kd.int .i64) w A1 l1.length l1) (hc1 : l1.length ≤ c1) (h : grid_Run.f k l0 l1 = some (r1, r2)) :
  Calls Tryz.prog 67 #[.slice A0 l0.length c0, .slice A1 l1.length c1] w fun e w' => ∃ v0_ : Value, e = .returned (.tuple #[v0_, .int .i64 r2]) ∧ Kd.R k54 54 w' w.heap.size (fun _ => True) v0_ r1 ∧ Below w.heap.size w w' := by
 have hu54 := Tryz.underlying54
 have HR0 := Aside0.mk hr0
 have HC0 := Aside0.mk hc0
 clear hr0 hc0
 have HR1 := Aside0.mk hr1
 have HC1 := Aside0.mk hc1
 clear hr1 hc1
 have HB := Aside0.mk (Below.refl w.heap.size w)
 have H : ((grid_Behind.f k l0 l1).bind fun t243 => (grid_Run.l0 k l0 l1 t243 ([] : List (S54)) 0 0)) = some (r1, r2) := h
 clear h
 replace H := Option.bind_eq_some_iff.mp H
 obtain ⟨t243, A30, H⟩ := H
 replace H : (grid_Run.l0 k l0 l1 t243 ([] : List (S54)) 0 0) = some (r1, r2) := H
 have A3 := Aside0.mk A30
 clear A30
 have H' := Aside0.mk H
 clear H
 go_enter Tryz.func67, Tryz.ntmps67
 try dsimp only [List.append]
 go_wp2_with (first | (go_at_call 108; (with_reducible refine (grid_Behind.calls k _ _ l0 _ _ l1 t243 _ ?side1 ?side2 ?side3 ?side4 A3.out).mono ?_); (case side1 => repeat (first | exact HR0.out | (with_reducible refine Kd.C_alloc ?_ _) | (with_reducible refine Kd.C_drewN ?_ _) | (with_reducible refine Kd.C_drew ?_))); (case side2 => exact HC0.out); (case side3 => repeat (first | exact HR1.out | (with_reducible refine Kd.C_alloc ?_ _) | (with_reducible refine Kd.C_drewN ?_ _) | (with_reducible refine Kd.C_drew ?_))); (case side4 => exact HC1.out); rintro e w4 ⟨v244, rfl, ho0, hb⟩; have n0_ := Aside0.mk (Kd.S_lower ho0 (below_size (by repeat (first | (with_reducible first | exact HB.out | apply below_alloc | apply pw_below_drewN | apply below_drew1) | exact HB.out)))); have n1_ := Aside0.mk (below_step (by repeat (first | (with_reducible first | exact HB.out | apply below_alloc | apply pw_below_drewN | apply below_drew1) | exact HB.out)) hb); clear HB; have HO245 := n0_; have HB := n1_; clear n0_ n1_; (try clear hb); (try clear hb2); (try clear hk); (try clear hi); (try clear ho0)))
 repeat (go_quiet (first | (go_at_call 108; (with_reducible refine (grid_Behind.calls k _ _ l0 _ _ l1 t243 _ ?side1 ?side2 ?side3 ?side4 A3.out).mono ?_); (case side1 => repeat (first | exact HR0.out | (with_reducible refine Kd.C_alloc ?_ _) | (with_reducible refine Kd.C_drewN ?_ _) | (with_reducible refine Kd.C_drew ?_))); (case side2 => exact HC0.out); (case side3 => repeat (first | exact HR1.out | (with_reducible refine Kd.C_alloc ?_ _) | (with_reducible refine Kd.C_drewN ?_ _) | (with_reducible refine Kd.C_drew ?_))); (case side4 => exact HC1.out); rintro e w4 ⟨v244, rfl, ho0, hb⟩; have n0_ := Aside0.mk (Kd.S_lower ho0 (below_size (by repeat (first | (with_reducible first | exact HB.out | apply below_alloc | apply pw_below_drewN | apply below_drew1) | exact HB.out)))); have n1_ := Aside0.mk (below_step (by repeat (first | (with_reducible first | exact HB.out | apply below_alloc | apply pw_below_drewN | apply below_drew1) | exact HB.out)) hb); clear HB; have HO245 := n0_; have HB := n1_; clear n0_ n1_; (try clear hb); (try clear hb2); (try clear hk); (try clear hi); (try clear ho0))); try go_wp2_with (first | (go_at_call 108; (with_reducible refine (grid_Behind.calls k _ _ l0 _ _ l1 t243 _ ?side1 ?side2 ?side3 ?side4 A3.out).mono ?_); (case side1 => repeat (first | exact HR0.out | (with_reducible refine Kd.C_alloc ?_ _) | (with_reducible refine Kd.C_drewN ?_ _) | (with_reducible refine Kd.C_drew ?_))); (case side2 => exact HC0.out); (case side3 => repeat (first | exact HR1.out | (with_reducible refine Kd.C_alloc ?_ _) | (with_reducible refine Kd.C_drewN ?_ _) | (with_reducible refine Kd.C_drew ?_))); (case side4 => exact HC1.out); rintro e w4 ⟨v244, rfl, ho0, hb⟩; have n0_ := Aside0.mk (Kd.S_lower ho0 (below_size (by repeat (first | (with_reducible first | exact HB.out | apply below_alloc | apply pw_below_drewN | apply below_drew1) | exact HB.out)))); have n1_ := Aside0.mk (below_step (by repeat (first | (with_reducible first | exact HB.out | apply below_alloc | apply pw_below_drewN | apply below_drew1) | exact HB.out)) hb); clear HB; have HO245 := n0_; have HB := n1_; clear n0_ n1_; (try clear hb); (try clear hb2); (try clear hk); (try clear hi); (try clear ho0))))
 go_loopg [7, 8, 9] k (fun kq v7 v8 v9 w' => ∃ (x7_1 : List (S54)) (x8_1 : Int) (x9_1 : Int), v8 = .int .i64 x8_1 ∧ v9 = .int .i64 x9_1 ∧ Aside0 (grid_Run.l0 kq l0 l1 t243 x7_1 x8_1 x9_1 = some (r1, r2)) ∧ Aside0 (kq ≤ k) ∧ Aside0 (Kd.S (Kd.slice 3 (Kd.int .i64)) 25 w' w.heap.size (fun _ => True) v244 t243) ∧ Aside0 (Kd.R k54 54 w' w.heap.size (fun _ => True) v7 x7_1) ∧ Aside0 (Below w.heap.size w w'))
 case atStart => exact ⟨(([] : List (S54))), (0), (0), (by first | rfl | (simp; done) | (simp [*]; done)), (by first | rfl | (simp; done) | (simp [*]; done)), H', ⟨Nat.le_refl _⟩, ⟨by (with_reducible repeat (first | apply Kd.S_alloc | apply Kd.S_drewN | apply Kd.S_drew)); exact HO245.out⟩, ⟨by first | exact Kd.R_nil _ _ _ _ _ | exact Kd.N_nil _ _ _ _ _ | exact Kd.V_nil _ _ _ _ _ | exact Kd.Q_nil _ _ _ _ _ | exact Kd.S_nil _ _ _ _ _⟩, ⟨by repeat (first | (with_reducible first | exact HB.out | apply below_alloc | apply pw_below_drewN | apply below_drew1) | exact HB.out)⟩⟩
 case round =>
  clear H'
  try clear c1
  try clear p2
  obtain ⟨x7_1, x8_1, x9_1, rfl, rfl, HA, HK1, HO_6, HO_7, HB⟩ := hrel
  cases gk with
  | zero => exact absurd HA.out (by simp [grid_Run.l0])
  | succ k1 =>
   have H := HA.out
   clear HA
   simp only [grid_Run.l0] at H
   have HC5 := Aside0.mk H
   clear H
   go_upto_region 4 with (fail)
   repeat (go_quiet (fail); go_upto_region 4 with (fail))
   go_cut [22] (fun v22 wc => ∃ (kq : Nat) (x22_4 : Bool), v22 = .bool x22_4 ∧ Aside0 (grid_Run.j1 kq l0 l1 t243 x7_1 x8_1 x9_1 x22_4 = some (r1, r2)) ∧ Aside0 (kq ≤ k1) ∧ Aside0 (Kd.S (Kd.slice 3 (Kd.int .i64)) 25 wc w.heap.size (fun _ => True) v244 t243) ∧ Aside0 (Kd.R k54 54 wc w.heap.size (fun _ => True) u7 x7_1) ∧ Aside0 (Below w.heap.size w wc))
   case first =>
    have H := HC5.out
    clear HC5
    by_cases c6 : x8_1 < (l0.length : Int)
    ·rw [if_pos c6] at H
     have c6b0 : decide (x8_1 < (l0.length : Int)) = true := decide_eq_true c6
     clear c6
     (first | rw [c6b0] | (simp only [i64_w, i32_w]; rw [c6b0]) | skip)
     have H' := Aside0.mk H
     clear H
     go_wp2
     repeat (go_quiet (fail); try go_wp2)
     go_meet
     case rel => exact ⟨_, (decide (x9_1 < (l1.length : Int))), (by first | rfl | (simp; done) | (simp [*]; done)), H', ⟨by have := HK1.out; first | omega | exact Nat.le_refl _⟩, ⟨by (with_reducible repeat (first | apply Kd.S_alloc | apply Kd.S_drewN | apply Kd.S_drew)); exact HO_6.out⟩, ⟨by (with_reducible repeat (first | apply Kd.R_alloc | apply Kd.R_drewN | apply Kd.R_drew)); exact HO_7.out⟩, ⟨by repeat (first | (with_reducible first | exact HB.out | apply below_alloc | apply pw_below_drewN | apply below_drew1) | exact HB.out)⟩⟩
    ·rw [if_neg c6] at H
     have c6b0 : decide (x8_1 < (l0.length : Int)) = false := decide_eq_false c6
     clear c6
     (first | rw [c6b0] | (simp only [i64_w, i32_w]; rw [c6b0]) | skip)
     have H' := Aside0.mk H
     clear H
     go_wp2
     repeat (go_quiet (fail); try go_wp2)
     go_meet
     case rel => exact ⟨_, (false), (by first | rfl | (simp; done) | (simp [*]; done)), H', ⟨by have := HK1.out; first | omega | exact Nat.le_refl _⟩, ⟨by (with_reducible repeat (first | apply Kd.S_alloc | apply Kd.S_drewN | apply Kd.S_drew)); exact HO_6.out⟩, ⟨by (with_reducible repeat (first | apply Kd.R_alloc | apply Kd.R_drewN | apply Kd.R_drew)); exact HO_7.out⟩, ⟨by repeat (first | (with_reducible first | exact HB.out | apply below_alloc | apply pw_below_drewN | apply below_drew1) | exact HB.out)⟩⟩
   case rest =>
    clear HC5
    try clear c1
    try clear p2
    try clear c6
    try clear c6b0
    try clear p2
    obtain ⟨kq, x22_4, rfl, HA, HJ4, HO_6, HO_7, HB⟩ := hcut
    cases kq with
    | zero => exact absurd HA.out (by simp [grid_Run.j1])
    | succ kj4 =>
     have H := HA.out
     clear HA
     simp only [grid_Run.j1] at H
     by_cases c7 : x22_4 = true
     ·subst c7
      have H1 : (if 0 ≤ x8_1 then (if x8_1 < (l0.length : Int) then (if 0 ≤ x9_1 then (if x9_1 < (l1.length : Int) then (if (rd l0 x8_1) = (rd l1 x9_1) then (if x7_1.length < 8796093022208 then (grid_Run.l0 kj4 l0 l1 t243 (x7_1 ++ [(⟨x8_1, x9_1⟩ : S54)]) (wrap64 (x8_1 + 1)) (wrap64 (x9_1 + 1))) else (none)) else (if 0 ≤ (wrap64 (x8_1 + 1)) then (if (wrap64 (x8_1 + 1)) < (t243.length : Int) then (if x9_1 < ((rd_L4 t243 (wrap64 (x8_1 + 1))).length : Int) then (if x8_1 < (t243.length : Int) then (if 0 ≤ (wrap64 (x9_1 + 1)) then (if (wrap64 (x9_1 + 1)) < ((rd_L4 t243 x8_1).length : Int) then (if (rd (rd_L4 t243 (wrap64 (x8_1 + 1))) x9_1) ≥ (rd (rd_L4 t243 x8_1) (wrap64 (x9_1 + 1))) then (grid_Run.l0 kj4 l0 l1 t243 x7_1 (wrap64 (x8_1 + 1)) x9_1) else (grid_Run.l0 kj4 l0 l1 t243 x7_1 x8_1 (wrap64 (x9_1 + 1)))) else (none)) else (none)) else (none)) else (none)) else (none)) else (none))) else (none)) else (none)) else (none)) else (none)) = some (r1, r2) := by rw [if_pos rfl] at H; exact H
      clear H
      have H := H1
      clear H1
      by_cases c8 : 0 ≤ x8_1
      ·rw [if_pos c8] at H
       have c8b0 : decide (0 ≤ x8_1) = true := decide_eq_true c8
       clear c8
       by_cases c9 : x8_1 < (l0.length : Int)
       ·rw [if_pos c9] at H
        have c9b0 : decide (x8_1 < (l0.length : Int)) = true := decide_eq_true c9
        clear c9
        by_cases c10 : 0 ≤ x9_1
        ·rw [if_pos c10] at H
         have c10b0 : decide (0 ≤ x9_1) = true := decide_eq_true c10
         clear c10
         by_cases c11 : x9_1 < (l1.length : Int)
         ·rw [if_pos c11] at H
          have c11b0 : decide (x9_1 < (l1.length : Int)) = true := decide_eq_true c11
          clear c11
          by_cases c12 : (rd l0 x8_1) = (rd l1 x9_1)
          ·rw [if_pos c12] at H
           have c12b0 : ((rd l0 x8_1) == (rd l1 x9_1)) = true := beq_iff_eq.mpr c12
           have c12b1 : ((rd l0 x8_1) != (rd l1 x9_1)) = false := bne_eq_false_iff_eq.mpr c12
           clear c12
           by_cases c13 : x7_1.length < 8796093022208
           ·rw [if_pos c13] at H
            have LMc13 := Aside0.mk c13
            clear c13
            obtain ⟨y248, hy248⟩ : ∃ y_ : List (S54), y_ = (x7_1 ++ [(⟨x8_1, x9_1⟩ : S54)]) := ⟨_, rfl⟩
            replace H : (grid_Run.l0 kj4 l0 l1 t243 y248 (wrap64 (x8_1 + 1)) (wrap64 (x9_1 + 1))) = some (r1, r2) := by first | (rw [hy248]; with_reducible exact H) | (have H2_ := (Option.bind_some _ _).symm.trans H; rw [hy248]; with_reducible exact H2_) | (have H2_ := (Option.bind_some _ _).symm.trans H; with_reducible exact H2_) | with_reducible exact H | (rw [hy248]; exact H) | exact H
            have Ny248 := Aside0.mk hy248
            clear hy248
            have H' := Aside0.mk H
            clear H
            have p246 : 0 ≤ (x8_1 : Int) := of_decide_eq_true (by first | (with_reducible assumption) | assumption)
            have q246 : x8_1 < (l0.length : Int) := of_decide_eq_true (by first | (with_reducible assumption) | assumption)
            obtain ⟨ad246, e246, hx246_0⟩ := Kd.at_int HR0.out x8_1 p246 q246
            cases e246
            replace hx246_0 := (HB.out.cell (World.block_lt_of_cell? w _ hx246_0)).trans hx246_0
            replace p246 := eq_true p246
            replace q246 := eq_true q246
            have p247 : 0 ≤ (x9_1 : Int) := of_decide_eq_true (by first | (with_reducible assumption) | assumption)
            have q247 : x9_1 < (l1.length : Int) := of_decide_eq_true (by first | (with_reducible assumption) | assumption)
            obtain ⟨ad247, e247, hx247_0⟩ := Kd.at_int HR1.out x9_1 p247 q247
            cases e247
            replace hx247_0 := (HB.out.cell (World.block_lt_of_cell? w _ hx247_0)).trans hx247_0
            replace p247 := eq_true p247
            replace q247 := eq_true q247
            go_wp2_with (first | ((with_reducible refine gate_builtin (b := .append) (xs := #[.tmp 35, .tmp 39]) rfl ?_); (try (refine gate_guard (by rfl) ?_; dsimp only)); at_builtin; refine Kd.R_append k54 (w0 := w) w.heap.size rfl (.tmp 35) (.tmp 39) 32 54 (.agg #[(.int .i64 0), (.int .i64 0)]) 16 rfl Tryz.underlying32 info54 rfl (by decide) (by omega) u7 x7_1 (⟨x8_1, x9_1⟩ : S54) [.int .i64 x8_1, .int .i64 x9_1] (fun _ => True) (fun _ => False) rfl rfl ?aP (fun _ hk => hk.elim) ?aF ?aO ?aB ?aS ?aL ?_; (case aP => exact k54_mkM _ _ _ (⟨x8_1, x9_1⟩ : S54)); (case aB => exact (by repeat (first | (with_reducible first | exact HB.out | apply below_alloc | apply pw_below_drewN | apply below_drew1) | exact HB.out))); (case aF => exact (fun _ _ => trivial)); (case aO => exact (by (with_reducible repeat (first | apply Kd.R_alloc | apply Kd.R_drewN | apply Kd.R_drew)); exact HO_7.out)); (case aS => exact (below_size (by repeat (first | (with_reducible first | exact HB.out | apply below_alloc | apply pw_below_drewN | apply below_drew1) | exact HB.out)))); (case aL => have := LMc13.out; omega); intro v249 w14 ho hb hg hat; rw [← Ny248.out] at ho; have n0_ := Aside0.mk (Kd.S_over' (by (with_reducible repeat (first | apply Kd.S_alloc | apply Kd.S_drewN | apply Kd.S_drew)); exact HO_6.out) (Kd.R_typed (by (with_reducible repeat (first | apply Kd.R_alloc | apply Kd.R_drewN | apply Kd.R_drew)); exact HO_7.out)) (by decide) hg); have n1_ := Aside0.mk (hb); have n2_ := Aside0.mk (ho); clear HO_6; clear HB; clear HO_7; have HO_6 := n0_; have HB := n1_; have HO250 := n2_; clear n0_ n1_ n2_; (try clear ho); (try clear hb); (try clear hg); (try clear hat)))
            repeat (go_quiet (first | ((with_reducible refine gate_builtin (b := .append) (xs := #[.tmp 35, .tmp 39]) rfl ?_); (try (refine gate_guard (by rfl) ?_; dsimp only)); at_builtin; refine Kd.R_append k54 (w0 := w) w.heap.size rfl (.tmp 35) (.tmp 39) 32 54 (.agg #[(.int .i64 0), (.int .i64 0)]) 16 rfl Tryz.underlying32 info54 rfl (by decide) (by omega) u7 x7_1 (⟨x8_1, x9_1⟩ : S54) [.int .i64 x8_1, .int .i64 x9_1] (fun _ => True) (fun _ => False) rfl rfl ?aP (fun _ hk => hk.elim) ?aF ?aO ?aB ?aS ?aL ?_; (case aP => exact k54_mkM _ _ _ (⟨x8_1, x9_1⟩ : S54)); (case aB => exact (by repeat (first | (with_reducible first | exact HB.out | apply below_alloc | apply pw_below_drewN | apply below_drew1) | exact HB.out))); (case aF => exact (fun _ _ => trivial)); (case aO => exact (by (with_reducible repeat (first | apply Kd.R_alloc | apply Kd.R_drewN | apply Kd.R_drew)); exact HO_7.out)); (case aS => exact (below_size (by repeat (first | (with_reducible first | exact HB.out | apply below_alloc | apply pw_below_drewN | apply below_drew1) | exact HB.out)))); (case aL => have := LMc13.out; omega); intro v249 w14 ho hb hg hat; rw [← Ny248.out] at ho; have n0_ := Aside0.mk (Kd.S_over' (by (with_reducible repeat (first | apply Kd.S_alloc | apply Kd.S_drewN | apply Kd.S_drew)); exact HO_6.out) (Kd.R_typed (by (with_reducible repeat (first | apply Kd.R_alloc | apply Kd.R_drewN | apply Kd.R_drew)); exact HO_7.out)) (by decide) hg); have n1_ := Aside0.mk (hb); have n2_ := Aside0.mk (ho); clear HO_6; clear HB; clear HO_7; have HO_6 := n0_; have HB := n1_; have HO250 := n2_; clear n0_ n1_ n2_; (try clear ho); (try clear hb); (try clear hg); (try clear hat))); try go_wp2_with (first | ((with_reducible refine gate_builtin (b := .append) (xs := #[.tmp 35, .tmp 39]) rfl ?_); (try (refine gate_guard (by rfl) ?_; dsimp only)); at_builtin; refine Kd.R_append k54 (w0 := w) w.heap.size rfl (.tmp 35) (.tmp 39) 32 54 (.agg #[(.int .i64 0), (.int .i64 0)]) 16 rfl Tryz.underlying32 info54 rfl (by decide) (by omega) u7 x7_1 (⟨x8_1, x9_1⟩ : S54) [.int .i64 x8_1, .int .i64 x9_1] (fun _ => True) (fun _ => False) rfl rfl ?aP (fun _ hk => hk.elim) ?aF ?aO ?aB ?aS ?aL ?_; (case aP => exact k54_mkM _ _ _ (⟨x8_1, x9_1⟩ : S54)); (case aB => exact (by repeat (first | (with_reducible first | exact HB.out | apply below_alloc | apply pw_below_drewN | apply below_drew1) | exact HB.out))); (case aF => exact (fun _ _ => trivial)); (case aO => exact (by (with_reducible repeat (first | apply Kd.R_alloc | apply Kd.R_drewN | apply Kd.R_drew)); exact HO_7.out)); (case aS => exact (below_size (by repeat (first | (with_reducible first | exact HB.out | apply below_alloc | apply pw_below_drewN | apply below_drew1) | exact HB.out)))); (case aL => have := LMc13.out; omega); intro v249 w14 ho hb hg hat; rw [← Ny248.out] at ho; have n0_ := Aside0.mk (Kd.S_over' (by (with_reducible repeat (first | apply Kd.S_alloc | apply Kd.S_drewN | apply Kd.S_drew)); exact HO_6.out) (Kd.R_typed (by (with_reducible repeat (first | apply Kd.R_alloc | apply Kd.R_drewN | apply Kd.R_drew)); exact HO_7.out)) (by decide) hg); have n1_ := Aside0.mk (hb); have n2_ := Aside0.mk (ho); clear HO_6; clear HB; clear HO_7; have HO_6 := n0_; have HB := n1_; have HO250 := n2_; clear n0_ n1_ n2_; (try clear ho); (try clear hb); (try clear hg); (try clear hat))))
            go_roundg kj4
            case measure => have := HK1.out; have := HJ4.out; omega
            case rel => exact ⟨(y248), (wrap64 (x8_1 + 1)), (wrap64 (x9_1 + 1)), (by first | rfl | (simp; done) | (simp [*]; done)), (by first | rfl | (simp; done) | (simp [*]; done)), H', ⟨by have := HK1.out; have := HJ4.out; omega⟩, ⟨by (with_reducible repeat (first | apply Kd.S_alloc | apply Kd.S_drewN | apply Kd.S_drew)); exact HO_6.out⟩, ⟨by (with_reducible repeat (first | apply Kd.R_alloc | apply Kd.R_drewN | apply Kd.R_drew)); exact HO250.out⟩, ⟨by repeat (first | (with_reducible first | exact HB.out | apply below_alloc | apply pw_below_drewN | apply below_drew1) | exact HB.out)⟩⟩
           ·rw [if_neg c13] at H
            exact absurd H (by simp)
          ·rw [if_neg c12] at H
           have c12b0 : ((rd l0 x8_1) == (rd l1 x9_1)) = false := beq_eq_false_iff_ne.mpr c12
           have c12b1 : ((rd l0 x8_1) != (rd l1 x9_1)) = true := bne_iff_ne.mpr c12
           obtain ⟨ji15, hji15⟩ : ∃ j_ : Int, (wrap64 (x8_1 + 1)) = j_ := ⟨_, rfl⟩
           replace H : (if 0 ≤ (ji15) then (if (ji15) < (t243.length : Int) then (if x9_1 < ((rd_L4 t243 (ji15)).length : Int) then (if x8_1 < (t243.length : Int) then (if 0 ≤ (wrap64 (x9_1 + 1)) then (if (wrap64 (x9_1 + 1)) < ((rd_L4 t243 x8_1).length : Int) then (if (rd (rd_L4 t243 (ji15)) x9_1) ≥ (rd (rd_L4 t243 x8_1) (wrap64 (x9_1 + 1))) then (grid_Run.l0 kj4 l0 l1 t243 x7_1 ji15 x9_1) else (grid_Run.l0 kj4 l0 l1 t243 x7_1 x8_1 (wrap64 (x9_1 + 1)))) else (none)) else (none)) else (none)) else (none)) else (none)) else (none)) = some (r1, r2) := by first | (rw [hji15] at H; exact H) | (simp only [hji15] at H ⊢; exact H)
           have hji15w : (IntKind.i64.wrap (x8_1 + 1)) = ji15 := (i64_w _).trans hji15
           by_cases c16 : 0 ≤ (ji15)
           ·rw [if_pos c16] at H
            have c16b0 : decide (0 ≤ (ji15)) = true := decide_eq_true c16
            clear c16
            by_cases c17 : (ji15) < (t243.length : Int)
            ·rw [if_pos c17] at H
             have c17b0 : decide ((ji15) < (t243.length : Int)) = true := decide_eq_true c17
             clear c17
             by_cases c18 : x9_1 < ((rd_L4 t243 (ji15)).length : Int)
             ·rw [if_pos c18] at H
              have c18b0 : decide (x9_1 < ((rd_L4 t243 (ji15)).length : Int)) = true := decide_eq_true c18
              clear c18
              by_cases c19 : x8_1 < (t243.length : Int)
              ·rw [if_pos c19] at H
               have c19b0 : decide (x8_1 < (t243.length : Int)) = true := decide_eq_true c19
               clear c19
               obtain ⟨ji20, hji20⟩ : ∃ j_ : Int, (wrap64 (x9_1 + 1)) = j_ := ⟨_, rfl⟩
               replace H : (if 0 ≤ (ji20) then (if (ji20) < ((rd_L4 t243 x8_1).length : Int) then (if (rd (rd_L4 t243 (ji15)) x9_1) ≥ (rd (rd_L4 t243 x8_1) (ji20)) then (grid_Run.l0 kj4 l0 l1 t243 x7_1 ji15 x9_1) else (grid_Run.l0 kj4 l0 l1 t243 x7_1 x8_1 ji20)) else (none)) else (none)) = some (r1, r2) := by first | (rw [hji20] at H; exact H) | (simp only [hji20] at H ⊢; exact H)
               have hji20w : (IntKind.i64.wrap (x9_1 + 1)) = ji20 := (i64_w _).trans hji20
               by_cases c21 : 0 ≤ (ji20)
               ·rw [if_pos c21] at H
                have c21b0 : decide (0 ≤ (ji20)) = true := decide_eq_true c21
                clear c21
                by_cases c22 : (ji20) < ((rd_L4 t243 x8_1).length : Int)
                ·rw [if_pos c22] at H
                 have c22b0 : decide ((ji20) < ((rd_L4 t243 x8_1).length : Int)) = true := decide_eq_true c22
                 clear c22
                 by_cases c23 : (rd (rd_L4 t243 (ji15)) x9_1) ≥ (rd (rd_L4 t243 x8_1) (ji20))
                 ·rw [if_pos c23] at H
                  have c23b0 : decide ((rd (rd_L4 t243 x8_1) (ji20)) ≤ (rd (rd_L4 t243 (ji15)) x9_1)) = true := decide_eq_true c23
                  clear c23
                  have H' := Aside0.mk H
                  clear H
                  have p246 : 0 ≤ (x8_1 : Int) := of_decide_eq_true (by first | (with_reducible assumption) | assumption)
                  have q246 : x8_1 < (l0.length : Int) := of_decide_eq_true (by first | (with_reducible assumption) | assumption)
                  obtain ⟨ad246, e246, hx246_0⟩ := Kd.at_int HR0.out x8_1 p246 q246
                  cases e246
                  replace hx246_0 := (HB.out.cell (World.block_lt_of_cell? w _ hx246_0)).trans hx246_0
                  replace p246 := eq_true p246
                  replace q246 := eq_true q246
                  have p247 : 0 ≤ (x9_1 : Int) := of_decide_eq_true (by first | (with_reducible assumption) | assumption)
                  have q247 : x9_1 < (l1.length : Int) := of_decide_eq_true (by first | (with_reducible assumption) | assumption)
                  obtain ⟨ad247, e247, hx247_0⟩ := Kd.at_int HR1.out x9_1 p247 q247
                  cases e247
                  replace hx247_0 := (HB.out.cell (World.block_lt_of_cell? w _ hx247_0)).trans hx247_0
                  replace p247 := eq_true p247
                  replace q247 := eq_true q247
                  obtain ⟨Ao24, co24, eo24⟩ := Kd.S_slice HO_6.out
                  subst eo24
                  have p251 : 0 ≤ ((ji15) : Int) := of_decide_eq_true (by first | (with_reducible assumption) | assumption)
                  have q251 : (ji15) < (t243.length : Int) := of_decide_eq_true (by first | (with_reducible assumption) | assumption)
                  try (obtain ⟨Ap251, cp251, ep251⟩ := Kd.S_slice HO_6.out; subst ep251)
                  obtain ⟨ad251, A251_0, c251_0, e251, hx251_0, hl251_0, hi251_0⟩ := at_L4 (Kd.S_reads' HO_6.out).2.2 (ji15) p251 q251
                  cases e251
                  obtain ⟨ce251, hce251, hMe251, hcc251⟩ := Kd.S_get HO_6.out [] (ji15) p251 (by first | exact q251 | exact of_decide_eq_true (by first | (with_reducible assumption) | assumption) | (have e_ := (Kd.S_reads' HO_6.out).1; omega))
                  obtain ⟨ve251_0, rfl, ge251_0⟩ := hMe251
                  have hv251_0 := hcc251 0 _ rfl
                  rw [Nat.add_zero, show ((Kd.slice 3 (Kd.int .i64))).sz = 1 from rfl, Nat.mul_one] at hv251_0
                  replace hv251_0 := Option.some.inj (hv251_0.symm.trans hx251_0)
                  rw [hv251_0] at ge251_0
                  have HL251_0 := Aside0.mk (show Kd.R (Kd.int .i64) 3 _ _ _ _ (rd_L4 t243 (ji15)) from ge251_0)
                  clear hv251_0 ge251_0
                  clear hcc251 hce251
                  have HR251_0 := Aside0.mk hi251_0
                  have HC251_0 := Aside0.mk hl251_0
                  clear hi251_0 hl251_0
                  replace p251 := eq_true p251
                  replace q251 := eq_true q251
                  have p252 : 0 ≤ (x9_1 : Int) := of_decide_eq_true (by first | (with_reducible assumption) | assumption)
                  have q252 : x9_1 < ((rd_L4 t243 (ji15)).length : Int) := of_decide_eq_true (by first | (with_reducible assumption) | assumption)
                  obtain ⟨ad252, e252, hx252_0⟩ := Kd.at_int (by repeat (first | (with_reducible exact HR251_0.out) | (with_reducible refine Kd.C_alloc ?_ _) | (with_reducible refine Kd.C_drewN ?_ _) | (with_reducible refine Kd.C_drew ?_) | exact HR251_0.out)) x9_1 p252 q252
                  cases e252
                  replace p252 := eq_true p252
                  replace q252 := eq_true q252
                  have p253 : 0 ≤ (x8_1 : Int) := of_decide_eq_true (by first | (with_reducible assumption) | assumption)
                  have q253 : x8_1 < (t243.length : Int) := of_decide_eq_true (by first | (with_reducible assumption) | assumption)
                  try (obtain ⟨Ap253, cp253, ep253⟩ := Kd.S_slice HO_6.out; subst ep253)
                  obtain ⟨ad253, A253_0, c253_0, e253, hx253_0, hl253_0, hi253_0⟩ := at_L4 (Kd.S_reads' HO_6.out).2.2 x8_1 p253 q253
                  obtain rfl : ad251 = ad253 := (by injection e253)
                  obtain ⟨ce253, hce253, hMe253, hcc253⟩ := Kd.S_get HO_6.out [] x8_1 p253 (by first | exact q253 | exact of_decide_eq_true (by first | (with_reducible assumption) | assumption) | (have e_ := (Kd.S_reads' HO_6.out).1; omega))
                  obtain ⟨ve253_0, rfl, ge253_0⟩ := hMe253
                  have hv253_0 := hcc253 0 _ rfl
                  rw [Nat.add_zero, show ((Kd.slice 3 (Kd.int .i64))).sz = 1 from rfl, Nat.mul_one] at hv253_0
                  replace hv253_0 := Option.some.inj (hv253_0.symm.trans hx253_0)
                  rw [hv253_0] at ge253_0
                  have HL253_0 := Aside0.mk (show Kd.R (Kd.int .i64) 3 _ _ _ _ (rd_L4 t243 x8_1) from ge253_0)
                  clear hv253_0 ge253_0
                  clear hcc253 hce253
                  have HR253_0 := Aside0.mk hi253_0
                  have HC253_0 := Aside0.mk hl253_0
                  clear hi253_0 hl253_0
                  replace p253 := eq_true p253
                  replace q253 := eq_true q253
                  have p254 : 0 ≤ ((ji20) : Int) := of_decide_eq_true (by first | (with_reducible assumption) | assumption)
                  have q254 : (ji20) < ((rd_L4 t243 x8_1).length : Int) := of_decide_eq_true (by first | (with_reducible assumption) | assumption)
                  obtain ⟨ad254, e254, hx254_0⟩ := Kd.at_int (by repeat (first | (with_reducible exact HR253_0.out) | (with_reducible refine Kd.C_alloc ?_ _) | (with_reducible refine Kd.C_drewN ?_ _) | (with_reducible refine Kd.C_drew ?_) | exact HR253_0.out)) (ji20) p254 q254
                  cases e254
                  replace p254 := eq_true p254
                  replace q254 := eq_true q254
                  go_wp2
                  repeat (go_quiet (fail); try go_wp2)
                  go_roundg kj4
                  case measure => have := HK1.out; have := HJ4.out; omega
                  case rel => exact ⟨(x7_1), (ji15), (x9_1), (by first | rfl | (simp; done) | (simp only [← hji15] <;> (first | rfl | simp)) | (simp [*]; done)), (by first | rfl | (simp; done) | (simp [*]; done)), H', ⟨by have := HK1.out; have := HJ4.out; omega⟩, ⟨by (with_reducible repeat (first | apply Kd.S_alloc | apply Kd.S_drewN | apply Kd.S_drew)); exact HO_6.out⟩, ⟨by (with_reducible repeat (first | apply Kd.R_alloc | apply Kd.R_drewN | apply Kd.R_drew)); exact HO_7.out⟩, ⟨by repeat (first | (with_reducible first | exact HB.out | apply below_alloc | apply pw_below_drewN | apply below_drew1) | exact HB.out)⟩⟩
                 ·rw [if_neg c23] at H
                  have c23b0 : decide ((rd (rd_L4 t243 x8_1) (ji20)) ≤ (rd (rd_L4 t243 (ji15)) x9_1)) = false := decide_eq_false c23
                  clear c23
                  have H' := Aside0.mk H
                  clear H
                  have p246 : 0 ≤ (x8_1 : Int) := of_decide_eq_true (by first | (with_reducible assumption) | assumption)
                  have q246 : x8_1 < (l0.length : Int) := of_decide_eq_true (by first | (with_reducible assumption) | assumption)
                  obtain ⟨ad246, e246, hx246_0⟩ := Kd.at_int HR0.out x8_1 p246 q246
                  cases e246
                  replace hx246_0 := (HB.out.cell (World.block_lt_of_cell? w _ hx246_0)).trans hx246_0
                  replace p246 := eq_true p246
                  replace q246 := eq_true q246
                  have p247 : 0 ≤ (x9_1 : Int) := of_decide_eq_true (by first | (with_reducible assumption) | assumption)
                  have q247 : x9_1 < (l1.length : Int) := of_decide_eq_true (by first | (with_reducible assumption) | assumption)
                  obtain ⟨ad247, e247, hx247_0⟩ := Kd.at_int HR1.out x9_1 p247 q247
                  cases e247
                  replace hx247_0 := (HB.out.cell (World.block_lt_of_cell? w _ hx247_0)).trans hx247_0
                  replace p247 := eq_true p247
                  replace q247 := eq_true q247
                  obtain ⟨Ao25, co25, eo25⟩ := Kd.S_slice HO_6.out
                  subst eo25
                  have p251 : 0 ≤ ((ji15) : Int) := of_decide_eq_true (by first | (with_reducible assumption) | assumption)
                  have q251 : (ji15) < (t243.length : Int) := of_decide_eq_true (by first | (with_reducible assumption) | assumption)
                  try (obtain ⟨Ap251, cp251, ep251⟩ := Kd.S_slice HO_6.out; subst ep251)
                  obtain ⟨ad251, A251_0, c251_0, e251, hx251_0, hl251_0, hi251_0⟩ := at_L4 (Kd.S_reads' HO_6.out).2.2 (ji15) p251 q251
                  cases e251
                  obtain ⟨ce251, hce251, hMe251, hcc251⟩ := Kd.S_get HO_6.out [] (ji15) p251 (by first | exact q251 | exact of_decide_eq_true (by first | (with_reducible assumption) | assumption) | (have e_ := (Kd.S_reads' HO_6.out).1; omega))
                  obtain ⟨ve251_0, rfl, ge251_0⟩ := hMe251
                  have hv251_0 := hcc251 0 _ rfl
                  rw [Nat.add_zero, show ((Kd.slice 3 (Kd.int .i64))).sz = 1 from rfl, Nat.mul_one] at hv251_0
                  replace hv251_0 := Option.some.inj (hv251_0.symm.trans hx251_0)
                  rw [hv251_0] at ge251_0
                  have HL251_0 := Aside0.mk (show Kd.R (Kd.int .i64) 3 _ _ _ _ (rd_L4 t243 (ji15)) from ge251_0)
                  clear hv251_0 ge251_0
                  clear hcc251 hce251
                  have HR251_0 := Aside0.mk hi251_0
                  have HC251_0 := Aside0.mk hl251_0
                  clear hi251_0 hl251_0
                  replace p251 := eq_true p251
                  replace q251 := eq_true q251
                  have p252 : 0 ≤ (x9_1 : Int) := of_decide_eq_true (by first | (with_reducible assumption) | assumption)
                  have q252 : x9_1 < ((rd_L4 t243 (ji15)).length : Int) := of_decide_eq_true (by first | (with_reducible assumption) | assumption)
                  obtain ⟨ad252, e252, hx252_0⟩ := Kd.at_int (by repeat (first | (with_reducible exact HR251_0.out) | (with_reducible refine Kd.C_alloc ?_ _) | (with_reducible refine Kd.C_drewN ?_ _) | (with_reducible refine Kd.C_drew ?_) | exact HR251_0.out)) x9_1 p252 q252
                  cases e252
                  replace p252 := eq_true p252
                  replace q252 := eq_true q252
                  have p253 : 0 ≤ (x8_1 : Int) := of_decide_eq_true (by first | (with_reducible assumption) | assumption)
                  have q253 : x8_1 < (t243.length : Int) := of_decide_eq_true (by first | (with_reducible assumption) | assumption)
                  try (obtain ⟨Ap253, cp253, ep253⟩ := Kd.S_slice HO_6.out; subst ep253)
                  obtain ⟨ad253, A253_0, c253_0, e253, hx253_0, hl253_0, hi253_0⟩ := at_L4 (Kd.S_reads' HO_6.out).2.2 x8_1 p253 q253
                  obtain rfl : ad251 = ad253 := (by injection e253)
                  obtain ⟨ce253, hce253, hMe253, hcc253⟩ := Kd.S_get HO_6.out [] x8_1 p253 (by first | exact q253 | exact of_decide_eq_true (by first | (with_reducible assumption) | assumption) | (have e_ := (Kd.S_reads' HO_6.out).1; omega))
                  obtain ⟨ve253_0, rfl, ge253_0⟩ := hMe253
                  have hv253_0 := hcc253 0 _ rfl
                  rw [Nat.add_zero, show ((Kd.slice 3 (Kd.int .i64))).sz = 1 from rfl, Nat.mul_one] at hv253_0
                  replace hv253_0 := Option.some.inj (hv253_0.symm.trans hx253_0)
                  rw [hv253_0] at ge253_0
                  have HL253_0 := Aside0.mk (show Kd.R (Kd.int .i64) 3 _ _ _ _ (rd_L4 t243 x8_1) from ge253_0)
                  clear hv253_0 ge253_0
                  clear hcc253 hce253
                  have HR253_0 := Aside0.mk hi253_0
                  have HC253_0 := Aside0.mk hl253_0
                  clear hi253_0 hl253_0
                  replace p253 := eq_true p253
                  replace q253 := eq_true q253
                  have p254 : 0 ≤ ((ji20) : Int) := of_decide_eq_true (by first | (with_reducible assumption) | assumption)
                  have q254 : (ji20) < ((rd_L4 t243 x8_1).length : Int) := of_decide_eq_true (by first | (with_reducible assumption) | assumption)
                  obtain ⟨ad254, e254, hx254_0⟩ := Kd.at_int (by repeat (first | (with_reducible exact HR253_0.out) | (with_reducible refine Kd.C_alloc ?_ _) | (with_reducible refine Kd.C_drewN ?_ _) | (with_reducible refine Kd.C_drew ?_) | exact HR253_0.out)) (ji20) p254 q254
                  cases e254
                  replace p254 := eq_true p254
                  replace q254 := eq_true q254
                  go_wp2
                  repeat (go_quiet (fail); try go_wp2)
                  go_roundg kj4
                  case measure => have := HK1.out; have := HJ4.out; omega
                  case rel => exact ⟨(x7_1), (x8_1), (ji20), (by first | rfl | (simp; done) | (simp [*]; done)), (by first | rfl | (simp; done) | (simp only [← hji20] <;> (first | rfl | simp)) | (simp [*]; done)), H', ⟨by have := HK1.out; have := HJ4.out; omega⟩, ⟨by (with_reducible repeat (first | apply Kd.S_alloc | apply Kd.S_drewN | apply Kd.S_drew)); exact HO_6.out⟩, ⟨by (with_reducible repeat (first | apply Kd.R_alloc | apply Kd.R_drewN | apply Kd.R_drew)); exact HO_7.out⟩, ⟨by repeat (first | (with_reducible first | exact HB.out | apply below_alloc | apply pw_below_drewN | apply below_drew1) | exact HB.out)⟩⟩
                ·rw [if_neg c22] at H
                 exact absurd H (by simp)
               ·rw [if_neg c21] at H
                exact absurd H (by simp)
              ·rw [if_neg c19] at H
               exact absurd H (by simp)
             ·rw [if_neg c18] at H
              exact absurd H (by simp)
            ·rw [if_neg c17] at H
             exact absurd H (by simp)
           ·rw [if_neg c16] at H
            exact absurd H (by simp)
         ·rw [if_neg c11] at H
          exact absurd H (by simp)
        ·rw [if_neg c10] at H
         exact absurd H (by simp)
       ·rw [if_neg c9] at H
        exact absurd H (by simp)
      ·rw [if_neg c8] at H
       exact absurd H (by simp)
     ·replace c7 := Bool.eq_false_iff.mpr c7
      subst c7
      have H1 : (some (x7_1, wrap64 ((l0.length : Int) * (l1.length : Int)))) = some (r1, r2) := by rw [if_neg (show ¬ (false = true) by decide)] at H; exact H
      clear H
      have H := H1
      clear H1
      simp only [Option.some.injEq, Prod.mk.injEq] at H
      obtain ⟨rfl, rfl⟩ := H
      go_wp2
      repeat (go_quiet (fail); try go_wp2)
      go_ret2
      exact ⟨_, by first | rfl | (simp [errW_none, errW_some] <;> rfl) | (simp [*, errW_none, errW_some] <;> rfl), by (with_reducible repeat (first | apply Kd.R_alloc | apply Kd.R_drewN | apply Kd.R_drew)); exact HO_7.out, by repeat (first | (with_reducible first | exact HB.out | apply below_alloc | apply pw_below_drewN | apply below_drew1) | exact HB.out)⟩
mutual
def grid_Len.l0 : Nat → List Int → List Int → List Int → Int → Option (Int)
 | 0, _, _, _, _ => none
 | k + 1, x0, x1, x5, x6 => if x6 ≥ 0 then (grid_Len.l1 k x0 x1 x5 x6 0 (wrap64 ((x1.length : Int) - 1))) else (if 0 < (x5.length : Int) then (some (rd x5 0)) else (none))
def grid_Len.l1 : Nat → List Int → List Int → List Int → Int → Int → Int → Option (Int)
 | 0, _, _, _, _, _, _ => none
 | k + 1, x0, x1, x5, x6, x7, x8 => if x8 ≥ 0 then (if 0 ≤ x8 then (if x8 < (x5.length : Int) then (if 0 ≤ x6 then (if x6 < (x0.length : Int) then (if x8 < (x1.length : Int) then (if (rd x0 x6) = (rd x1 x8) then (grid_Len.l1 k x0 x1 (x5.set (x8 : Int).toNat (wrap64 (x7 + 1))) x6 (rd x5 x8) (wrap64 (x8 - 1))) else (if 0 ≤ (wrap64 (x8 + 1)) then (if (wrap64 (x8 + 1)) < (x5.length : Int) then (grid_Len.l1 k x0 x1 (x5.set (x8 : Int).toNat (mx (rd x5 x8) (rd x5 (wrap64 (x8 + 1))))) x6 (rd x5 x8) (wrap64 (x8 - 1))) else (none)) else (none))) else (none)) else (none)) else (none)) else (none)) else (none)) else (grid_Len.l0 k x0 x1 x5 (wrap64 (x6 - 1)))
end
def grid_Len.f (k : Nat) (l0 : List Int) (l1 : List Int) : Option (Int) := if 0 ≤ (wrap64 ((l1.length : Int) + 1)) then (if (wrap64 ((l1.length : Int) + 1) : Int).toNat ≤ 35184372088832 then (grid_Len.l0 k l0 l1 (List.replicate (wrap64 ((l1.length : Int) + 1) : Int).toNat 0) (wrap64 ((l0.length : Int) - 1))) else (none)) else (none)
theorem grid_Len.mono_l : ∀ k, (∀ y0 y1 y2 y3, LeO (grid_Len.l0 k y0 y1 y2 y3) (grid_Len.l0 (k + 1) y0 y1 y2 y3)) ∧ (∀ y0 y1 y2 y3 y4 y5, LeO (grid_Len.l1 k y0 y1 y2 y3 y4 y5) (grid_Len.l1 (k + 1) y0 y1 y2 y3 y4 y5))
 | 0 => ⟨fun _ _ _ _ r h => by simp [grid_Len.l0] at h, fun _ _ _ _ _ _ r h => by simp [grid_Len.l1] at h⟩
 | k + 1 => by
  obtain ⟨ih0, ih1⟩ := grid_Len.mono_l k
  refine ⟨?_, ?_⟩
  ·intro y0 y1 y2 y3
   unfold grid_Len.l0
   repeat' first
   | (with_reducible exact ih0 _ _ _ _)
   | (with_reducible exact ih1 _ _ _ _ _ _)
   | (with_reducible exact LeO.refl _)
   | (with_reducible exact LeO.none _)
   | (with_reducible refine LeO.ite ?_ ?_)
   | (with_reducible refine LeO.bind ?_ (fun _ => ?_))
   | exact ih0 _ _ _ _
   | exact ih1 _ _ _ _ _ _
   | exact LeO.none _
   | refine LeO.ite ?_ ?_
   | refine LeO.bind ?_ (fun _ => ?_)
  ·intro y0 y1 y2 y3 y4 y5
   unfold grid_Len.l1
   repeat' first
   | (with_reducible exact ih0 _ _ _ _)
   | (with_reducible exact ih1 _ _ _ _ _ _)
   | (with_reducible exact LeO.refl _)
   | (with_reducible exact LeO.none _)
   | (with_reducible refine LeO.ite ?_ ?_)
   | (with_reducible refine LeO.bind ?_ (fun _ => ?_))
   | exact ih0 _ _ _ _
   | exact ih1 _ _ _ _ _ _
   | exact LeO.none _
   | refine LeO.ite ?_ ?_
   | refine LeO.bind ?_ (fun _ => ?_)
theorem grid_Len.mono : ∀ a0 a1 k, LeO (grid_Len.f k a0 a1) (grid_Len.f (k + 1) a0 a1) := by
 intro a0 a1 k
 obtain ⟨ih0, ih1⟩ := grid_Len.mono_l k
 unfold grid_Len.f
 repeat' first
   | (with_reducible exact ih0 _ _ _ _)
   | (with_reducible exact ih1 _ _ _ _ _ _)
   | (with_reducible exact LeO.refl _)
   | (with_reducible exact LeO.none _)
   | (with_reducible refine LeO.ite ?_ ?_)
   | (with_reducible refine LeO.bind ?_ (fun _ => ?_))
   | exact ih0 _ _ _ _
   | exact ih1 _ _ _ _ _ _
   | exact LeO.none _
   | refine LeO.ite ?_ ?_
   | refine LeO.bind ?_ (fun _ => ?_)
def grid_Len.T10 : Bool × List (List Nat × List Nat) := (true, [([], []), ([], []), ([0, 1], [0, 1]), ([2], [2]), ([], []), ([], []), ([4, 5], [4, 5]), ([6], [6]), ([3, 7], [3, 7])])
def grid_Len.B10 : List Nat := [0, 0, 3, 7, 0, 0, 48, 112, 255]
theorem grid_Len.tab10 : rtab .any (opsOf Tryz.f78 10) = grid_Len.T10 := by kernel_rfl
theorem grid_Len.bits10 : waitsOk grid_Len.T10.2 grid_Len.B10 = true := by kernel_rfl
def grid_Len.T12 : Bool × List (List Nat × List Nat) := (true, [([], []), ([], []), ([], []), ([], []), ([2, 3], [2, 3]), ([4], [4]), ([], []), ([], []), ([7], [7]), ([6, 8], [6, 8]), ([9], [9]), ([5, 10], [5, 10]), ([0, 1, 0, 1, 2, 3, 4, 5, 6, 7, 8, 9, 10, 11], [0, 1]), ([12, 11, 0, 1, 2, 3, 4, 5, 6, 7, 8, 9, 10, 11], [11, 12])])
def grid_Len.B12 : List Nat := [0, 0, 0, 0, 12, 28, 0, 0, 128, 448, 960, 2044, 4095, 8191]
theorem grid_Len.tab12 : rtab .any (opsOf Tryz.f78 12) = grid_Len.T12 := by kernel_rfl
theorem grid_Len.bits12 : waitsOk grid_Len.T12.2 grid_Len.B12 = true := by kernel_rfl
set_option maxHeartbeats 8000000 in
set_option maxRecDepth 100000 in
theorem grid_Len.calls (k : Nat) (A0 : Option Addr) (c0 : Nat) (l0 : List Int) (A1 : Option Addr) (c1 : Nat) (l1 : List Int) (r : Int) (w : World) (hr0 : Kd.C (Kd.int .i64) w A0 l0.length l0) (hc0 : l0.length ≤ c0) (hr1 : Kd.C (Kd.int .i64) w A1 l1.length l1) (hc1 : l1.length ≤ c1) (h : grid_Len.f k l0 l1 = some r) :
  Calls Tryz.prog 78 #[.slice A0 l0.length c0, .slice A1 l1.length c1] w fun e w' => e = .returned (.int .i64 r) ∧ Below w.heap.size w w' := by
 have HR0 := Aside0.mk hr0
 have HC0 := Aside0.mk hc0
 clear hr0 hc0
 have HR1 := Aside0.mk hr1
 have HC1 := Aside0.mk hc1
 clear hr1 hc1
 have HB := Aside0.mk (Below.refl w.heap.size w)
 have H : (if 0 ≤ (wrap64 ((l1.length : Int) + 1)) then (if (wrap64 ((l1.length : Int) + 1) : Int).toNat ≤ 35184372088832 then (grid_Len.l0 k l0 l1 (List.replicate (wrap64 ((l1.length : Int) + 1) : Int).toNat 0) (wrap64 ((l0.length : Int) - 1))) else (none)) else (none)) = some r := h
 clear h
 obtain ⟨ji3, hji3⟩ : ∃ j_ : Int, (wrap64 ((l1.length : Int) + 1)) = j_ := ⟨_, rfl⟩
 replace H : (if 0 ≤ (ji3) then (if (ji3 : Int).toNat ≤ 35184372088832 then (grid_Len.l0 k l0 l1 (List.replicate (ji3 : Int).toNat 0) (wrap64 ((l0.length : Int) - 1))) else (none)) else (none)) = some r := by first | (rw [hji3] at H; exact H) | (simp only [hji3] at H ⊢; exact H)
 have hji3w : (IntKind.i64.wrap ((l1.length : Int) + 1)) = ji3 := (i64_w _).trans hji3
 by_cases c4 : 0 ≤ (ji3)
 ·rw [if_pos c4] at H
  have c4b0 := eq_true c4
  have c4b1 : decide (0 ≤ (ji3)) = true := decide_eq_true c4
  clear c4
  by_cases c5 : (ji3 : Int).toNat ≤ 35184372088832
  ·rw [if_pos c5] at H
   have c5b0 := eq_true c5
   have c5b1 : decide ((ji3 : Int).toNat ≤ 35184372088832) = true := decide_eq_true c5
   clear c5
   obtain ⟨y627, hy627⟩ : ∃ y_ : List Int, y_ = (List.replicate (ji3 : Int).toNat 0) := ⟨_, rfl⟩
   replace H : (grid_Len.l0 k l0 l1 y627 (wrap64 ((l0.length : Int) - 1))) = some r := by first | (rw [hy627]; with_reducible exact H) | (have H2_ := (Option.bind_some _ _).symm.trans H; rw [hy627]; with_reducible exact H2_) | (have H2_ := (Option.bind_some _ _).symm.trans H; with_reducible exact H2_) | with_reducible exact H | (rw [hy627]; exact H) | exact H
   have Ny627 := Aside0.mk hy627
   clear hy627
   have H' := Aside0.mk H
   clear H
   go_enter Tryz.func78, Tryz.ntmps78
   go_wp2_with (first | ((with_reducible refine gate_dst (N := 13) rfl ?_); refine Kd.R_make (Kd.int .i64) _ 3 rfl (N := 13) rfl 25 _ _ rfl ji3 rfl rfl Tryz.underlying25 (.int .i64 0) 8 info3 rfl (by decide) (by omega) 0 (ok := fun _ => True) (okp := fun _ => True) rfl (fun _ hk => hk) trivial (of_decide_eq_true (by first | (with_reducible assumption) | assumption)) (Nat.le_trans (Nat.mul_le_mul_right _ (of_decide_eq_true (by first | (with_reducible assumption) | assumption) : ji3.toNat ≤ 35184372088832)) (by omega)) (Below.refl _ _) (Nat.le_refl _) ?_; intro v628 w6 ho7 hb hg_ hnew_; (try clear hg_); (try clear hnew_); (first | rw [← Ny627.out] at ho7 | (simp only [Int.reduceToNat] at ho7; rw [← Ny627.out] at ho7)); have n0_ := Aside0.mk (Kd.R_lower ho7 (below_size (by repeat (first | (with_reducible first | exact HB.out | apply below_alloc | apply pw_below_drewN | apply below_drew1) | exact HB.out)))); have n1_ := Aside0.mk (below_step (by repeat (first | (with_reducible first | exact HB.out | apply below_alloc | apply pw_below_drewN | apply below_drew1) | exact HB.out)) hb); clear HB; have HO629 := n0_; have HB := n1_; clear n0_ n1_; (try clear hb); (try clear ho7)))
   go_loopg [6] k (fun kq v6 w' => ∃ (x5_1 : List Int) (x6_1 : Int), v6 = .int .i64 x6_1 ∧ Aside0 (grid_Len.l0 kq l0 l1 x5_1 x6_1 = some r) ∧ Aside0 (kq ≤ k) ∧ Aside0 (Kd.R (Kd.int .i64) 3 w' w.heap.size (fun _ => True) v628 x5_1) ∧ Aside0 (Below w.heap.size w w'))
   case atStart => exact ⟨(y627), (wrap64 ((l0.length : Int) - 1)), (by first | rfl | (simp; done) | (simp [*]; done)), H', ⟨Nat.le_refl _⟩, ⟨by (with_reducible repeat (first | apply Kd.R_alloc | apply Kd.R_drewN | apply Kd.R_drew)); exact HO629.out⟩, ⟨by repeat (first | (with_reducible first | exact HB.out | apply below_alloc | apply pw_below_drewN | apply below_drew1) | exact HB.out)⟩⟩
   case round =>
    clear H'
    try clear c1
    try clear p2
    try clear c4
    try clear c4b0
    try clear c4b1
    try clear c5
    try clear c5b0
    try clear c5b1
    try clear p6
    try clear c7
    obtain ⟨x5_1, x6_1, rfl, HA, HK1, HO_5, HB⟩ := hrel
    cases gk with
    | zero => exact absurd HA.out (by simp [grid_Len.l0])
    | succ k1 =>
     have H := HA.out
     clear HA
     simp only [grid_Len.l0] at H
     by_cases c8 : x6_1 ≥ 0
     ·rw [if_pos c8] at H
      have c8b0 : decide (0 ≤ x6_1) = true := decide_eq_true c8
      clear c8
      have H' := Aside0.mk H
      clear H
      go_wp2
      go_loopg [7, 8] k1 (fun kq v7 v8 w' => ∃ (x5_2 : List Int) (x7_2 : Int) (x8_2 : Int), v7 = .int .i64 x7_2 ∧ v8 = .int .i64 x8_2 ∧ Aside0 (grid_Len.l1 kq l0 l1 x5_2 x6_1 x7_2 x8_2 = some r) ∧ Aside0 (kq ≤ k1) ∧ Aside0 (Kd.R (Kd.int .i64) 3 w' w.heap.size (fun _ => True) v628 x5_2) ∧ Aside0 (Below w.heap.size w w'))
      case atStart => exact ⟨(x5_1), (0), (wrap64 ((l1.length : Int) - 1)), (by first | rfl | (simp; done) | (simp [*]; done)), (by first | rfl | (simp; done) | (simp [*]; done)), H', ⟨Nat.le_refl _⟩, ⟨by (with_reducible repeat (first | apply Kd.R_alloc | apply Kd.R_drewN | apply Kd.R_drew)); exact HO_5.out⟩, ⟨by repeat (first | (with_reducible first | exact HB.out | apply below_alloc | apply pw_below_drewN | apply below_drew1) | exact HB.out)⟩⟩
      case round =>
       clear H'
       try clear c1
       try clear p2
       try clear c4
       try clear c4b0
       try clear c4b1
       try clear c5
       try clear c5b0
       try clear c5b1
       try clear p6
       try clear c7
       try clear c8
       try clear c8b0
       try clear p2
       try clear p6
       obtain ⟨x5_2, x7_2, x8_2, rfl, rfl, HA, HK2, HO_5, HB⟩ := hrel
       cases gk with
       | zero => exact absurd HA.out (by simp [grid_Len.l1])
       | succ k2 =>
        have H := HA.out
        clear HA
        simp only [grid_Len.l1] at H
        by_cases c9 : x8_2 ≥ 0
        ·rw [if_pos c9] at H
         have c9b0 : decide (0 ≤ x8_2) = true := decide_eq_true c9
         clear c9
         by_cases c10 : 0 ≤ x8_2
         ·rw [if_pos c10] at H
          have c10b0 : decide (0 ≤ x8_2) = true := decide_eq_true c10
          clear c10
          by_cases c11 : x8_2 < (x5_2.length : Int)
          ·rw [if_pos c11] at H
           have c11b0 : decide (x8_2 < (x5_2.length : Int)) = true := decide_eq_true c11
           clear c11
           by_cases c12 : 0 ≤ x6_1
           ·rw [if_pos c12] at H
            have c12b0 : decide (0 ≤ x6_1) = true := decide_eq_true c12
            clear c12
            by_cases c13 : x6_1 < (l0.length : Int)
            ·rw [if_pos c13] at H
             have c13b0 : decide (x6_1 < (l0.length : Int)) = true := decide_eq_true c13
             clear c13
             by_cases c14 : x8_2 < (l1.length : Int)
             ·rw [if_pos c14] at H
              have c14b0 : decide (x8_2 < (l1.length : Int)) = true := decide_eq_true c14
              clear c14
              by_cases c15 : (rd l0 x6_1) = (rd l1 x8_2)
              ·rw [if_pos c15] at H
               have c15b0 : ((rd l0 x6_1) == (rd l1 x8_2)) = true := beq_iff_eq.mpr c15
               have c15b1 : ((rd l0 x6_1) != (rd l1 x8_2)) = false := bne_eq_false_iff_eq.mpr c15
               clear c15
               obtain ⟨y634, hy634⟩ : ∃ y_ : List Int, y_ = (x5_2.set (x8_2 : Int).toNat (wrap64 (x7_2 + 1))) := ⟨_, rfl⟩
               replace H : (grid_Len.l1 k2 l0 l1 y634 x6_1 (rd x5_2 x8_2) (wrap64 (x8_2 - 1))) = some r := by first | (rw [hy634]; with_reducible exact H) | (have H2_ := (Option.bind_some _ _).symm.trans H; rw [hy634]; with_reducible exact H2_) | (have H2_ := (Option.bind_some _ _).symm.trans H; with_reducible exact H2_) | with_reducible exact H | (rw [hy634]; exact H) | exact H
               have Ny634 := Aside0.mk hy634
               clear hy634
               have H' := Aside0.mk H
               clear H
               obtain ⟨Ao17, co17, eo17⟩ := Kd.R_slice HO_5.out
               subst eo17
               have p631 : 0 ≤ (x8_2 : Int) := of_decide_eq_true (by first | (with_reducible assumption) | assumption)
               have q631 : x8_2 < (x5_2.length : Int) := of_decide_eq_true (by first | (with_reducible assumption) | assumption)
               obtain ⟨ad631, e631, hx631_0⟩ := Kd.at_int (Kd.R_reads' HO_5.out).2.2 x8_2 p631 q631
               cases e631
               replace p631 := eq_true p631
               replace q631 := eq_true q631
               try go_wp2
               have n0_ := Aside0.mk (Kd.R_drew HO_5.out)
               have n1_ := Aside0.mk (below_drew1 HB.out)
               clear HO_5
               clear HB
               have HO_5 := n0_
               have HB := n1_
               clear n0_ n1_
               have p632 : 0 ≤ (x6_1 : Int) := of_decide_eq_true (by first | (with_reducible assumption) | assumption)
               have q632 : x6_1 < (l0.length : Int) := of_decide_eq_true (by first | (with_reducible assumption) | assumption)
               obtain ⟨ad632, e632, hx632_0⟩ := Kd.at_int HR0.out x6_1 p632 q632
               have hw632_0 := hx632_0
               cases e632
               replace hx632_0 := (HB.out.cell (World.block_lt_of_cell? w _ hx632_0)).trans hx632_0
               replace p632 := eq_true p632
               replace q632 := eq_true q632
               have p633 : 0 ≤ (x8_2 : Int) := of_decide_eq_true (by first | (with_reducible assumption) | assumption)
               have q633 : x8_2 < (l1.length : Int) := of_decide_eq_true (by first | (with_reducible assumption) | assumption)
               obtain ⟨ad633, e633, hx633_0⟩ := Kd.at_int HR1.out x8_2 p633 q633
               have hw633_0 := hx633_0
               cases e633
               replace hx633_0 := (HB.out.cell (World.block_lt_of_cell? w _ hx633_0)).trans hx633_0
               replace p633 := eq_true p633
               replace q633 := eq_true q633
               refine start_ (n := 9) (S := fun w' => w'.cell? (ad632.add (x6_1).toNat) = some (.int .i64 (rd l0 x6_1)) ∧ w'.cell? (ad633.add (x8_2).toNat) = some (.int .i64 (rd l1 x8_2))) (ds := []) #[N,N,N,N,N,N,N,N,N] (by kernel_rfl) rfl rfl ⟨((HB.out.cell (World.block_lt_of_cell? w _ hw632_0)).trans hw632_0), ((HB.out.cell (World.block_lt_of_cell? w _ hw633_0)).trans hw633_0)⟩ (fun hHeld => ?_); refine with_tabW grid_Len.tab10 grid_Len.bits10 (fun HT_ HW_ => ?_)
               generalize wr.drew = w18 at HO_5 HB hx632_0 hx633_0 hHeld ⊢
               refine pure_ (i := 0) (N := some 32) (v := ?_) (a' := ?_) #[Y,N,N,N,N,N,N,N,N] rfl rfl (any_of HT_.out (by kernel_rfl)) (fun _ _ _ h => h) (Or.inl ⟨by rfl, ?_⟩) ?_ ?_; rotate_left
               ·intro w'; go_simp; with_reducible rfl
               rotate_left
               ·simp only [Act.put, sA,sB,sC, i64_w, i32_w]; rfl
               refine pure_ (i := 1) (N := some 33) (v := ?_) (a' := ?_) #[Y,Y,N,N,N,N,N,N,N] rfl rfl (any_of HT_.out (by kernel_rfl)) (fun _ _ _ h => h) (Or.inl ⟨by rfl, ?_⟩) ?_ ?_; rotate_left
               ·intro w'; go_simp; with_reducible rfl
               rotate_left
               ·simp only [Act.put, sA,sB,sC, i64_w, i32_w]; rfl
               refine pure_ (i := 2) (N := some 34) (v := ?_) (a' := ?_) #[Y,Y,Y,N,N,N,N,N,N] rfl rfl (any_of HT_.out (by kernel_rfl)) (fun _ _ _ h => h) (Or.inl ⟨by rfl, ?_⟩) ?_ ?_; rotate_left
               ·intro w'; go_simp; with_reducible rfl
               rotate_left
               ·simp only [Act.put, sA,sB,sC, i64_w, i32_w]; rfl
               refine pure_ (i := 4) (N := some 36) (v := ?_) (a' := ?_) #[Y,Y,Y,N,Y,N,N,N,N] rfl rfl (any_of HT_.out (by kernel_rfl)) (fun _ _ _ h => h) (Or.inl ⟨by rfl, ?_⟩) ?_ ?_; rotate_left
               ·intro w'; go_simp; with_reducible rfl
               rotate_left
               ·simp only [Act.put, sA,sB,sC, i64_w, i32_w]; rfl
               refine pure_ (i := 5) (N := some 37) (v := ?_) (a' := ?_) #[Y,Y,Y,N,Y,Y,N,N,N] rfl rfl (any_of HT_.out (by kernel_rfl)) (fun _ _ _ h => h) (Or.inl ⟨by rfl, ?_⟩) ?_ ?_; rotate_left
               ·intro w'; go_simp; with_reducible rfl
               rotate_left
               ·simp only [Act.put, sA,sB,sC, i64_w, i32_w]; rfl
               refine pure_ (i := 6) (N := some 38) (v := ?_) (a' := ?_) #[Y,Y,Y,N,Y,Y,Y,N,N] rfl rfl (any_of HT_.out (by kernel_rfl)) (fun _ _ _ h => h) (Or.inl ⟨by rfl, ?_⟩) ?_ ?_; rotate_left
               ·intro w'; go_simp; with_reducible rfl
               rotate_left
               ·simp only [Act.put, sA,sB,sC, i64_w, i32_w]; rfl
               refine take_ (i := 3) (N := some 35) (v := ?_) (a' := ?_) #[Y,Y,Y,Y,Y,Y,Y,N,N] rfl rfl (take_ofW HT_.out HW_.out (by kernel_rfl)) (fun _ _ _ h => h) (Or.inl ⟨by rfl, ?_⟩) hHeld ?_ ?_; rotate_left
               ·rintro w' ⟨s0, s1⟩; go_simp; with_reducible rfl
               rotate_left
               ·simp only [Act.put, sA,sB,sC, i64_w, i32_w]; rfl
               refine take_ (i := 7) (N := some 39) (v := ?_) (a' := ?_) #[Y,Y,Y,Y,Y,Y,Y,Y,N] rfl rfl (take_ofW HT_.out HW_.out (by kernel_rfl)) (fun _ _ _ h => h) (Or.inl ⟨by rfl, ?_⟩) hHeld ?_ ?_; rotate_left
               ·rintro w' ⟨s0, s1⟩; go_simp; with_reducible rfl
               rotate_left
               ·simp only [Act.put, sA,sB,sC, i64_w, i32_w]; rfl
               refine pure_ (i := 8) (N := some 40) (v := ?_) (a' := ?_) #[Y,Y,Y,Y,Y,Y,Y,Y,Y] rfl rfl (any_of HT_.out (by kernel_rfl)) (fun _ _ _ h => h) (Or.inl ⟨by rfl, ?_⟩) ?_ ?_; rotate_left
               ·intro w'; go_simp; with_reducible rfl
               rotate_left
               ·simp only [Act.put, sA,sB,sC, i64_w, i32_w]; rfl
               refine done_ (done_of HT_.out (by kernel_rfl)) ?_
               have p16 : 0 ≤ (x8_2 : Int) := of_decide_eq_true (by first | (with_reducible assumption) | assumption)
               have q16 : (x8_2 : Int) < ((x5_2.length : Int) : Int) := of_decide_eq_true (by first | (with_reducible assumption) | assumption)
               obtain ⟨go16, co16, eo16, gb16, gl16, cl16, HG16⟩ := Kd.R_form HO_5.out (by omega)
               (first | cases eo16 | (injection eo16 with ea_ en_ ec_; (first | subst ea_ | (injection ea_ with ea_; subst ea_)); subst ec_; clear en_))
               have GB16 := Aside0.mk gb16
               have GG16 := Aside0.mk HG16
               clear gb16 gl16 HG16
               (first | simp only [add_plain] at hx631_0 | skip)
               obtain ⟨hx16_0, hf16_0⟩ := Kd.R_celln 0 HO_5.out (x8_2 : Int) p16 q16
               replace p16 := eq_true p16
               replace q16 := eq_true q16
               obtain ⟨hy19_, hz19_⟩ := Kd.R_celln 0 HO_5.out (x8_2 : Int) (of_decide_eq_true (by first | (with_reducible assumption) | assumption)) (of_decide_eq_true (by first | (with_reducible assumption) | assumption))
               have HP19 := Kd.R_putg HO_5.out (x8_2 : Int) (wrap64 (x7_2 + 1))
               try go_wp2_with (first | ((with_reducible refine gate_store (t := 3) (p := 45) rfl ?_); refine store_event (t := 3) (p := 45) (v := ?vo_w20) (w1 := (w18.setCell ⟨go16, (x8_2 : Int).toNat, none⟩ (.int .i64 (wrap64 (x7_2 + 1))))) ?hg ?ho ?hn ?hr ?_; (case ho => rfl); (case hg => rfl); (case hn => rfl); (case hr => first | (go_simp; done) | (go_simp; rfl)); intro w20 hw; have hg : w18.grownBy w20 (some go16) := (by rw [hw]; exact HP19.2); have hp_ : Kd.R (Kd.int .i64) 3 w20 w.heap.size (fun _ => True) (.slice (some ⟨go16, 0, none⟩) x5_2.length co17) y634 := (by rw [hw, Ny634.out]; exact HP19.1); clear HP19; have n0_ := Aside0.mk (hp_); have n1_ := Aside0.mk ((by rw [hw]; exact below_set (HB.out) GB16.out : Below w.heap.size w w20)); clear HO_5; clear HB; have HO_5 := n0_; have HB := n1_; clear n0_ n1_; (try clear hg); (try clear hw); (try clear hp_)))
               go_roundg k2
               case measure => have := HK1.out; have := HK2.out; omega
               case rel => exact ⟨(y634), (rd x5_2 x8_2), (wrap64 (x8_2 - 1)), (by first | rfl | (simp; done) | (simp [*]; done)), (by first | rfl | (simp; done) | (simp [*]; done)), H', ⟨by have := HK1.out; have := HK2.out; omega⟩, ⟨by (with_reducible repeat (first | apply Kd.R_alloc | apply Kd.R_drewN | apply Kd.R_drew)); exact HO_5.out⟩, ⟨by repeat (first | (with_reducible first | exact HB.out | apply below_alloc | apply pw_below_drewN | apply below_drew1) | exact HB.out)⟩⟩
              ·rw [if_neg c15] at H
               have c15b0 : ((rd l0 x6_1) == (rd l1 x8_2)) = false := beq_eq_false_iff_ne.mpr c15
               have c15b1 : ((rd l0 x6_1) != (rd l1 x8_2)) = true := bne_iff_ne.mpr c15
               obtain ⟨ji21, hji21⟩ : ∃ j_ : Int, (wrap64 (x8_2 + 1)) = j_ := ⟨_, rfl⟩
               replace H : (if 0 ≤ (ji21) then (if (ji21) < (x5_2.length : Int) then (grid_Len.l1 k2 l0 l1 (x5_2.set (x8_2 : Int).toNat (mx (rd x5_2 x8_2) (rd x5_2 (ji21)))) x6_1 (rd x5_2 x8_2) (wrap64 (x8_2 - 1))) else (none)) else (none)) = some r := by first | (rw [hji21] at H; exact H) | (simp only [hji21] at H ⊢; exact H)
               have hji21w : (IntKind.i64.wrap (x8_2 + 1)) = ji21 := (i64_w _).trans hji21
               by_cases c22 : 0 ≤ (ji21)
               ·rw [if_pos c22] at H
                have c22b0 : decide (0 ≤ (ji21)) = true := decide_eq_true c22
                clear c22
                by_cases c23 : (ji21) < (x5_2.length : Int)
                ·rw [if_pos c23] at H
                 have c23b0 : decide ((ji21) < (x5_2.length : Int)) = true := decide_eq_true c23
                 clear c23
                 obtain ⟨ji24, hji24⟩ : ∃ j_ : Int, (mx (rd x5_2 x8_2) (rd x5_2 (ji21))) = j_ := ⟨_, rfl⟩
                 replace H : (grid_Len.l1 k2 l0 l1 (x5_2.set (x8_2 : Int).toNat (ji24)) x6_1 (rd x5_2 x8_2) (wrap64 (x8_2 - 1))) = some r := by first | (rw [hji24] at H; exact H) | (simp only [hji24] at H ⊢; exact H)
                 have hji24_ : (if (rd x5_2 x8_2) < (rd x5_2 (ji21)) then (rd x5_2 (ji21)) else (rd x5_2 x8_2)) = ji24 := hji24
                 obtain ⟨y637, hy637⟩ : ∃ y_ : List Int, y_ = (x5_2.set (x8_2 : Int).toNat (ji24)) := ⟨_, rfl⟩
                 replace H : (grid_Len.l1 k2 l0 l1 y637 x6_1 (rd x5_2 x8_2) (wrap64 (x8_2 - 1))) = some r := by first | (rw [hy637]; with_reducible exact H) | (have H2_ := (Option.bind_some _ _).symm.trans H; rw [hy637]; with_reducible exact H2_) | (have H2_ := (Option.bind_some _ _).symm.trans H; with_reducible exact H2_) | with_reducible exact H | (rw [hy637]; exact H) | exact H
                 have Ny637 := Aside0.mk hy637
                 clear hy637
                 have H' := Aside0.mk H
                 clear H
                 obtain ⟨Ao26, co26, eo26⟩ := Kd.R_slice HO_5.out
                 subst eo26
                 have p631 : 0 ≤ (x8_2 : Int) := of_decide_eq_true (by first | (with_reducible assumption) | assumption)
                 have q631 : x8_2 < (x5_2.length : Int) := of_decide_eq_true (by first | (with_reducible assumption) | assumption)
                 obtain ⟨ad631, e631, hx631_0⟩ := Kd.at_int (Kd.R_reads' HO_5.out).2.2 x8_2 p631 q631
                 cases e631
                 replace p631 := eq_true p631
                 replace q631 := eq_true q631
                 try go_wp2
                 have n0_ := Aside0.mk (Kd.R_drew HO_5.out)
                 have n1_ := Aside0.mk (below_drew1 HB.out)
                 clear HO_5
                 clear HB
                 have HO_5 := n0_
                 have HB := n1_
                 clear n0_ n1_
                 have p632 : 0 ≤ (x6_1 : Int) := of_decide_eq_true (by first | (with_reducible assumption) | assumption)
                 have q632 : x6_1 < (l0.length : Int) := of_decide_eq_true (by first | (with_reducible assumption) | assumption)
                 obtain ⟨ad632, e632, hx632_0⟩ := Kd.at_int HR0.out x6_1 p632 q632
                 have hw632_0 := hx632_0
                 cases e632
                 replace hx632_0 := (HB.out.cell (World.block_lt_of_cell? w _ hx632_0)).trans hx632_0
                 replace p632 := eq_true p632
                 replace q632 := eq_true q632
                 have p633 : 0 ≤ (x8_2 : Int) := of_decide_eq_true (by first | (with_reducible assumption) | assumption)
                 have q633 : x8_2 < (l1.length : Int) := of_decide_eq_true (by first | (with_reducible assumption) | assumption)
                 obtain ⟨ad633, e633, hx633_0⟩ := Kd.at_int HR1.out x8_2 p633 q633
                 have hw633_0 := hx633_0
                 cases e633
                 replace hx633_0 := (HB.out.cell (World.block_lt_of_cell? w _ hx633_0)).trans hx633_0
                 replace p633 := eq_true p633
                 replace q633 := eq_true q633
                 refine start_ (n := 9) (S := fun w' => w'.cell? (ad632.add (x6_1).toNat) = some (.int .i64 (rd l0 x6_1)) ∧ w'.cell? (ad633.add (x8_2).toNat) = some (.int .i64 (rd l1 x8_2))) (ds := []) #[N,N,N,N,N,N,N,N,N] (by kernel_rfl) rfl rfl ⟨((HB.out.cell (World.block_lt_of_cell? w _ hw632_0)).trans hw632_0), ((HB.out.cell (World.block_lt_of_cell? w _ hw633_0)).trans hw633_0)⟩ (fun hHeld => ?_); refine with_tabW grid_Len.tab10 grid_Len.bits10 (fun HT_ HW_ => ?_)
                 generalize wr.drew = w27 at HO_5 HB hx632_0 hx633_0 hHeld ⊢
                 refine pure_ (i := 0) (N := some 32) (v := ?_) (a' := ?_) #[Y,N,N,N,N,N,N,N,N] rfl rfl (any_of HT_.out (by kernel_rfl)) (fun _ _ _ h => h) (Or.inl ⟨by rfl, ?_⟩) ?_ ?_; rotate_left
                 ·intro w'; go_simp; with_reducible rfl
                 rotate_left
                 ·simp only [Act.put, sA,sB,sC, i64_w, i32_w]; rfl
                 refine pure_ (i := 1) (N := some 33) (v := ?_) (a' := ?_) #[Y,Y,N,N,N,N,N,N,N] rfl rfl (any_of HT_.out (by kernel_rfl)) (fun _ _ _ h => h) (Or.inl ⟨by rfl, ?_⟩) ?_ ?_; rotate_left
                 ·intro w'; go_simp; with_reducible rfl
                 rotate_left
                 ·simp only [Act.put, sA,sB,sC, i64_w, i32_w]; rfl
                 refine pure_ (i := 2) (N := some 34) (v := ?_) (a' := ?_) #[Y,Y,Y,N,N,N,N,N,N] rfl rfl (any_of HT_.out (by kernel_rfl)) (fun _ _ _ h => h) (Or.inl ⟨by rfl, ?_⟩) ?_ ?_; rotate_left
                 ·intro w'; go_simp; with_reducible rfl
                 rotate_left
                 ·simp only [Act.put, sA,sB,sC, i64_w, i32_w]; rfl
                 refine pure_ (i := 4) (N := some 36) (v := ?_) (a' := ?_) #[Y,Y,Y,N,Y,N,N,N,N] rfl rfl (any_of HT_.out (by kernel_rfl)) (fun _ _ _ h => h) (Or.inl ⟨by rfl, ?_⟩) ?_ ?_; rotate_left
                 ·intro w'; go_simp; with_reducible rfl
                 rotate_left
                 ·simp only [Act.put, sA,sB,sC, i64_w, i32_w]; rfl
                 refine pure_ (i := 5) (N := some 37) (v := ?_) (a' := ?_) #[Y,Y,Y,N,Y,Y,N,N,N] rfl rfl (any_of HT_.out (by kernel_rfl)) (fun _ _ _ h => h) (Or.inl ⟨by rfl, ?_⟩) ?_ ?_; rotate_left
                 ·intro w'; go_simp; with_reducible rfl
                 rotate_left
                 ·simp only [Act.put, sA,sB,sC, i64_w, i32_w]; rfl
                 refine pure_ (i := 6) (N := some 38) (v := ?_) (a' := ?_) #[Y,Y,Y,N,Y,Y,Y,N,N] rfl rfl (any_of HT_.out (by kernel_rfl)) (fun _ _ _ h => h) (Or.inl ⟨by rfl, ?_⟩) ?_ ?_; rotate_left
                 ·intro w'; go_simp; with_reducible rfl
                 rotate_left
                 ·simp only [Act.put, sA,sB,sC, i64_w, i32_w]; rfl
                 refine take_ (i := 3) (N := some 35) (v := ?_) (a' := ?_) #[Y,Y,Y,Y,Y,Y,Y,N,N] rfl rfl (take_ofW HT_.out HW_.out (by kernel_rfl)) (fun _ _ _ h => h) (Or.inl ⟨by rfl, ?_⟩) hHeld ?_ ?_; rotate_left
                 ·rintro w' ⟨s0, s1⟩; go_simp; with_reducible rfl
                 rotate_left
                 ·simp only [Act.put, sA,sB,sC, i64_w, i32_w]; rfl
                 refine take_ (i := 7) (N := some 39) (v := ?_) (a' := ?_) #[Y,Y,Y,Y,Y,Y,Y,Y,N] rfl rfl (take_ofW HT_.out HW_.out (by kernel_rfl)) (fun _ _ _ h => h) (Or.inl ⟨by rfl, ?_⟩) hHeld ?_ ?_; rotate_left
                 ·rintro w' ⟨s0, s1⟩; go_simp; with_reducible rfl
                 rotate_left
                 ·simp only [Act.put, sA,sB,sC, i64_w, i32_w]; rfl
                 refine pure_ (i := 8) (N := some 40) (v := ?_) (a' := ?_) #[Y,Y,Y,Y,Y,Y,Y,Y,Y] rfl rfl (any_of HT_.out (by kernel_rfl)) (fun _ _ _ h => h) (Or.inl ⟨by rfl, ?_⟩) ?_ ?_; rotate_left
                 ·intro w'; go_simp; with_reducible rfl
                 rotate_left
                 ·simp only [Act.put, sA,sB,sC, i64_w, i32_w]; rfl
                 refine done_ (done_of HT_.out (by kernel_rfl)) ?_
                 try go_wp2
                 have n0_ := Aside0.mk (Kd.R_drew HO_5.out)
                 have n1_ := Aside0.mk (below_drew1 HB.out)
                 clear HO_5
                 clear HB
                 have HO_5 := n0_
                 have HB := n1_
                 clear n0_ n1_
                 have p635 : 0 ≤ (x8_2 : Int) := of_decide_eq_true (by first | (with_reducible assumption) | assumption)
                 have q635 : x8_2 < (x5_2.length : Int) := of_decide_eq_true (by first | (with_reducible assumption) | assumption)
                 obtain ⟨ad635, e635, hx635_0⟩ := Kd.at_int (Kd.R_reads' HO_5.out).2.2 x8_2 p635 q635
                 obtain rfl : ad631 = ad635 := (by injection e635)
                 replace p635 := eq_true p635
                 replace q635 := eq_true q635
                 have p636 : 0 ≤ ((ji21) : Int) := of_decide_eq_true (by first | (with_reducible assumption) | assumption)
                 have q636 : (ji21) < (x5_2.length : Int) := of_decide_eq_true (by first | (with_reducible assumption) | assumption)
                 obtain ⟨ad636, e636, hx636_0⟩ := Kd.at_int (Kd.R_reads' HO_5.out).2.2 (ji21) p636 q636
                 obtain rfl : ad631 = ad636 := (by injection e636)
                 replace p636 := eq_true p636
                 replace q636 := eq_true q636
                 have p25 : 0 ≤ (x8_2 : Int) := of_decide_eq_true (by first | (with_reducible assumption) | assumption)
                 have q25 : (x8_2 : Int) < ((x5_2.length : Int) : Int) := of_decide_eq_true (by first | (with_reducible assumption) | assumption)
                 obtain ⟨go25, co25, eo25, gb25, gl25, cl25, HG25⟩ := Kd.R_form HO_5.out (by omega)
                 (first | cases eo25 | (injection eo25 with ea_ en_ ec_; (first | subst ea_ | (injection ea_ with ea_; subst ea_)); subst ec_; clear en_))
                 have GB25 := Aside0.mk gb25
                 have GG25 := Aside0.mk HG25
                 clear gb25 gl25 HG25
                 (first | simp only [add_plain] at hx631_0 | skip)
                 (first | simp only [add_plain] at hx635_0 | skip)
                 (first | simp only [add_plain] at hx636_0 | skip)
                 obtain ⟨hx25_0, hf25_0⟩ := Kd.R_celln 0 HO_5.out (x8_2 : Int) p25 q25
                 replace p25 := eq_true p25
                 replace q25 := eq_true q25
                 have HP29 := Kd.R_putn HO_5.out (x8_2 : Int) ji24
                 rw [← Ny637.out] at HP29
                 have HQ29 := Aside0.mk HP29
                 clear HP29
                 refine start_ (n := 14) (S := fun w' => w'.cell? ⟨go25, (x8_2).toNat, none⟩ = some (.int .i64 (rd x5_2 x8_2)) ∧ w'.cell? ⟨go25, ((ji21)).toNat, none⟩ = some (.int .i64 (rd x5_2 (ji21)))) (ds := [13]) #[N,N,N,N,N,N,N,N,N,N,N,N,N,N] (by kernel_rfl) rfl rfl ⟨hx635_0, hx636_0⟩ (fun hHeld => ?_); refine with_tabW grid_Len.tab12 grid_Len.bits12 (fun HT_ HW_ => ?_)
                 generalize w27.drew = w28 at HO_5 HB GG25 HQ29 hf25_0 hx25_0 hx631_0 hx635_0 hx636_0 hHeld ⊢
                 refine pure_ (i := 0) (N := some 46) (v := ?_) (a' := ?_) #[Y,N,N,N,N,N,N,N,N,N,N,N,N,N] rfl rfl (any_of HT_.out (by kernel_rfl)) (fun _ _ _ h => h) (Or.inl ⟨by rfl, ?_⟩) ?_ ?_; rotate_left
                 ·intro w'; go_simp; with_reducible rfl
                 rotate_left
                 ·simp only [Act.put, sA,sB,sC, i64_w, i32_w]; rfl
                 refine pure_ (i := 1) (N := some 47) (v := ?_) (a' := ?_) #[Y,Y,N,N,N,N,N,N,N,N,N,N,N,N] rfl rfl (any_of HT_.out (by kernel_rfl)) (fun _ _ _ h => h) (Or.inl ⟨by rfl, ?_⟩) ?_ ?_; rotate_left
                 ·intro w'; go_simp; with_reducible rfl
                 rotate_left
                 ·simp only [Act.put, sA,sB,sC, i64_w, i32_w]; rfl
                 refine pure_ (i := 2) (N := some 48) (v := ?_) (a' := ?_) #[Y,Y,Y,N,N,N,N,N,N,N,N,N,N,N] rfl rfl (any_of HT_.out (by kernel_rfl)) (fun _ _ _ h => h) (Or.inl ⟨by rfl, ?_⟩) ?_ ?_; rotate_left
                 ·intro w'; go_simp; with_reducible rfl
                 rotate_left
                 ·simp only [Act.put, sA,sB,sC, i64_w, i32_w]; rfl
                 refine pure_ (i := 3) (N := some 49) (v := ?_) (a' := ?_) #[Y,Y,Y,Y,N,N,N,N,N,N,N,N,N,N] rfl rfl (any_of HT_.out (by kernel_rfl)) (fun _ _ _ h => h) (Or.inl ⟨by rfl, ?_⟩) ?_ ?_; rotate_left
                 ·intro w'; go_simp; with_reducible rfl
                 rotate_left
                 ·simp only [Act.put, sA,sB,sC, i64_w, i32_w]; rfl
                 refine pure_ (i := 4) (N := some 50) (v := ?_) (a' := ?_) #[Y,Y,Y,Y,Y,N,N,N,N,N,N,N,N,N] rfl rfl (any_of HT_.out (by kernel_rfl)) (fun _ _ _ h => h) (Or.inl ⟨by rfl, ?_⟩) ?_ ?_; rotate_left
                 ·intro w'; go_simp; with_reducible rfl
                 rotate_left
                 ·simp only [Act.put, sA,sB,sC, i64_w, i32_w]; rfl
                 refine pure_ (i := 6) (N := some 52) (v := ?_) (a' := ?_) #[Y,Y,Y,Y,Y,N,Y,N,N,N,N,N,N,N] rfl rfl (any_of HT_.out (by kernel_rfl)) (fun _ _ _ h => h) (Or.inl ⟨by rfl, ?_⟩) ?_ ?_; rotate_left
                 ·intro w'; go_simp; with_reducible rfl
                 rotate_left
                 ·simp only [Act.put, sA,sB,sC, i64_w, i32_w]; rfl
                 refine pure_ (i := 7) (N := some 53) (v := ?_) (a' := ?_) #[Y,Y,Y,Y,Y,N,Y,Y,N,N,N,N,N,N] rfl rfl (any_of HT_.out (by kernel_rfl)) (fun _ _ _ h => h) (Or.inl ⟨by rfl, ?_⟩) ?_ ?_; rotate_left
                 ·intro w'; go_simp; with_reducible rfl
                 rotate_left
                 ·simp only [Act.put, sA,sB,sC, i64_w, i32_w]; rfl
                 refine pure_ (i := 8) (N := some 54) (v := ?_) (a' := ?_) #[Y,Y,Y,Y,Y,N,Y,Y,Y,N,N,N,N,N] rfl rfl (any_of HT_.out (by kernel_rfl)) (fun _ _ _ h => h) (Or.inl ⟨by rfl, ?_⟩) ?_ ?_; rotate_left
                 ·intro w'; go_simp; with_reducible rfl
                 rotate_left
                 ·simp only [Act.put, sA,sB,sC, i64_w, i32_w]; rfl
                 refine pure_ (i := 9) (N := some 55) (v := ?_) (a' := ?_) #[Y,Y,Y,Y,Y,N,Y,Y,Y,Y,N,N,N,N] rfl rfl (any_of HT_.out (by kernel_rfl)) (fun _ _ _ h => h) (Or.inl ⟨by rfl, ?_⟩) ?_ ?_; rotate_left
                 ·intro w'; go_simp; with_reducible rfl
                 rotate_left
                 ·simp only [Act.put, sA,sB,sC, i64_w, i32_w]; rfl
                 refine take_ (i := 5) (N := some 51) (v := ?_) (a' := ?_) #[Y,Y,Y,Y,Y,Y,Y,Y,Y,Y,N,N,N,N] rfl rfl (take_ofW HT_.out HW_.out (by kernel_rfl)) (fun _ _ _ h => h) (Or.inl ⟨by rfl, ?_⟩) hHeld ?_ ?_; rotate_left
                 ·rintro w' ⟨s0, s1⟩; go_simp; with_reducible rfl
                 rotate_left
                 ·simp only [Act.put, sA,sB,sC, i64_w, i32_w]; rfl
                 refine take_ (i := 10) (N := some 56) (v := ?_) (a' := ?_) #[Y,Y,Y,Y,Y,Y,Y,Y,Y,Y,Y,N,N,N] rfl rfl (take_ofW HT_.out HW_.out (by kernel_rfl)) (fun _ _ _ h => h) (Or.inl ⟨by rfl, ?_⟩) hHeld ?_ ?_; rotate_left
                 ·rintro w' ⟨s0, s1⟩; go_simp; with_reducible rfl
                 rotate_left
                 ·simp only [Act.put, sA,sB,sC, i64_w, i32_w]; rfl
                 refine pure_ (i := 11) (N := some 57) (v := ?_) (a' := ?_) #[Y,Y,Y,Y,Y,Y,Y,Y,Y,Y,Y,Y,N,N] rfl rfl (any_of HT_.out (by kernel_rfl)) (fun _ _ _ h => h) (Or.inl ⟨by rfl, ?_⟩) ?_ ?_; rotate_left
                 ·intro w'; go_simp; with_reducible rfl
                 rotate_left
                 ·simp only [Act.put, sA,sB,sC, i64_w, i32_w]; rfl
                 refine pure_ (i := 12) (N := some 58) (v := ?_) (a' := ?_) #[Y,Y,Y,Y,Y,Y,Y,Y,Y,Y,Y,Y,Y,N] rfl rfl (any_of HT_.out (by kernel_rfl)) (fun _ _ _ h => h) (Or.inl ⟨by rfl, ?_⟩) ?_ ?_; rotate_left
                 ·intro w'; go_simp; with_reducible rfl
                 rotate_left
                 ·simp only [Act.put, sA,sB,sC, i64_w, i32_w]; rfl
                 refine last_ (i := 13) (N := none) #[Y,Y,Y,Y,Y,Y,Y,Y,Y,Y,Y,Y,Y,Y] rfl rfl (one_of HT_.out (by kernel_rfl)) (by decide) (fun K hK => ?_)
                 refine skip_ (w1 := ?_) (by rfl) rfl ?_ ?_
                 rotate_left
                 ·go_simp; rfl
                 refine hK.out _ _ ?_
                 clear hK K
                 refine done_ (done_of HT_.out (by kernel_rfl)) ?_
                 try go_wp2
                 go_roundg k2
                 case measure => have := HK1.out; have := HK2.out; omega
                 case rel => exact ⟨(y637), (rd x5_2 x8_2), (wrap64 (x8_2 - 1)), (by first | rfl | (simp; done) | (simp [*]; done)), (by first | rfl | (simp; done) | (simp [*]; done)), H', ⟨by have := HK1.out; have := HK2.out; omega⟩, ⟨by (with_reducible repeat (first | apply Kd.R_alloc | apply Kd.R_drewN | apply Kd.R_drew)); exact HQ29.out⟩, ⟨by repeat (first | (with_reducible first | exact HB.out | apply below_alloc | apply pw_below_drewN | apply below_drew1 | refine below_set ?_ GB25.out) | exact HB.out)⟩⟩
                ·rw [if_neg c23] at H
                 exact absurd H (by simp)
               ·rw [if_neg c22] at H
                exact absurd H (by simp)
             ·rw [if_neg c14] at H
              exact absurd H (by simp)
            ·rw [if_neg c13] at H
             exact absurd H (by simp)
           ·rw [if_neg c12] at H
            exact absurd H (by simp)
          ·rw [if_neg c11] at H
           exact absurd H (by simp)
         ·rw [if_neg c10] at H
          exact absurd H (by simp)
        ·rw [if_neg c9] at H
         have c9b0 : decide (0 ≤ x8_2) = false := decide_eq_false c9
         clear c9
         have H' := Aside0.mk H
         clear H
         go_wp2
         go_roundg k2
         case measure => have := HK1.out; have := HK2.out; omega
         case rel => exact ⟨(x5_2), (wrap64 (x6_1 - 1)), (by first | rfl | (simp; done) | (simp [*]; done)), H', ⟨by have := HK1.out; have := HK2.out; omega⟩, ⟨by (with_reducible repeat (first | apply Kd.R_alloc | apply Kd.R_drewN | apply Kd.R_drew)); exact HO_5.out⟩, ⟨by repeat (first | (with_reducible first | exact HB.out | apply below_alloc | apply pw_below_drewN | apply below_drew1) | exact HB.out)⟩⟩
     ·rw [if_neg c8] at H
      have c8b0 : decide (0 ≤ x6_1) = false := decide_eq_false c8
      clear c8
      by_cases c30 : 0 < (x5_1.length : Int)
      ·rw [if_pos c30] at H
       have c30b0 : decide (0 < (x5_1.length : Int)) = true := decide_eq_true c30
       have c30b1 : decide (0 < x5_1.length) = true := decide_eq_true (by omega)
       clear c30
       obtain rfl := Option.some.inj H
       obtain ⟨Ao31, co31, eo31⟩ := Kd.R_slice HO_5.out
       subst eo31
       have p630 : 0 ≤ (0 : Int) := (by omega)
       have q630 : 0 < (x5_1.length : Int) := of_decide_eq_true (by first | (with_reducible assumption) | assumption)
       obtain ⟨ad630, e630, hx630_0⟩ := Kd.at_int (Kd.R_reads' HO_5.out).2.2 0 p630 q630
       cases e630
       have qi630 : (0 < x5_1.length) = True := eq_true (by omega)
       (try rw [show ((0 : Int)).toNat = 0 from rfl] at hx630_0)
       (try rw [Addr.add_zero'] at hx630_0)
       replace p630 := eq_true p630
       replace q630 := eq_true q630
       go_wp2
       go_ret
       exact ⟨by first | rfl | (simp [errW_none, errW_some] <;> rfl) | (simp only [← hji3]; first | rfl | (simp [errW_none, errW_some] <;> rfl)) | (simp [*, errW_none, errW_some] <;> rfl), by repeat (first | (with_reducible first | exact HB.out | apply below_alloc | apply pw_below_drewN | apply below_drew1) | exact HB.out)⟩
      ·rw [if_neg c30] at H
       exact absurd H (by simp)
  ·rw [if_neg c5] at H
   exact absurd H (by simp)
 ·rw [if_neg c4] at H
  exact absurd H (by simp)
end Go.Proofs.YtdiojfaenfggkaaGreat.PTopNear
namespace Go.Proofs.YtdiojfaenfggkaaGreat.PTopNear
open Go.RowKit Go.Proofs.YtdiojfaenfggkaaGreatW.PrintWords Go.Proofs.YtdiojfaenfggkaaGreatW.PrintLast Go.Proofs.YtdiojfaenfggkaaGreatW.PrintMore
attribute [local go_sem] max2_int min2_int max_two min_two max_three min_three max_four min_four
set_option linter.unusedVariables false
set_option linter.unusedSimpArgs false
mutual
def least_next.l0 : Nat → List (List Int) → List Int → List Int → Int → Int → Int → Option (Int × Int × Bool)
 | 0, _, _, _, _, _, _ => none
 | k + 1, x0, x1, x2, x4, x12, x13 => if x13 < (x1.length : Int) then (least_next.l1 k x0 x1 x2 x4 x12 x13 x4) else (some (0, 0, false))
def least_next.l1 : Nat → List (List Int) → List Int → List Int → Int → Int → Int → Int → Option (Int × Int × Bool)
 | 0, _, _, _, _, _, _, _ => none
 | k + 1, x0, x1, x2, x4, x12, x13, x14 => if x14 < (x2.length : Int) then (if 0 ≤ x13 then (if x13 < (x1.length : Int) then (if 0 ≤ x14 then (if (rd x1 x13) = (rd x2 x14) then (if 0 ≤ (wrap64 (x13 + 1)) then (if (wrap64 (x13 + 1)) < (x0.length : Int) then (if 0 ≤ (wrap64 (x14 + 1)) then (if (wrap64 (x14 + 1)) < ((rd_L4 x0 (wrap64 (x13 + 1))).length : Int) then (if (wrap64 ((rd (rd_L4 x0 (wrap64 (x13 + 1))) (wrap64 (x14 + 1))) + 1)) = x12 then (some (x13, x14, true)) else (least_next.l1 k x0 x1 x2 x4 x12 x13 (wrap64 (x14 + 1)))) else (none)) else (none)) else (none)) else (none)) else (least_next.l1 k x0 x1 x2 x4 x12 x13 (wrap64 (x14 + 1)))) else (none)) else (none)) else (none)) else (least_next.l0 k x0 x1 x2 x4 x12 (wrap64 (x13 + 1)))
end
def least_next.f (k : Nat) (l0 : List (List Int)) (l1 : List Int) (l2 : List Int) (a3 : Int) (a4 : Int) : Option (Int × Int × Bool) := if 0 ≤ a3 then (if a3 < (l0.length : Int) then (if 0 ≤ a4 then (if a4 < ((rd_L4 l0 a3).length : Int) then (if (rd (rd_L4 l0 a3) a4) = 0 then (some (0, 0, false)) else (least_next.l0 k l0 l1 l2 a4 (rd (rd_L4 l0 a3) a4) a3)) else (none)) else (none)) else (none)) else (none)
theorem least_next.mono_l : ∀ k, (∀ y0 y1 y2 y3 y4 y5, LeO (least_next.l0 k y0 y1 y2 y3 y4 y5) (least_next.l0 (k + 1) y0 y1 y2 y3 y4 y5)) ∧ (∀ y0 y1 y2 y3 y4 y5 y6, LeO (least_next.l1 k y0 y1 y2 y3 y4 y5 y6) (least_next.l1 (k + 1) y0 y1 y2 y3 y4 y5 y6))
 | 0 => ⟨fun _ _ _ _ _ _ r h => by simp [least_next.l0] at h, fun _ _ _ _ _ _ _ r h => by simp [least_next.l1] at h⟩
 | k + 1 => by
  obtain ⟨ih0, ih1⟩ := least_next.mono_l k
  refine ⟨?_, ?_⟩
  ·intro y0 y1 y2 y3 y4 y5
   unfold least_next.l0
   repeat' first
   | (with_reducible exact ih0 _ _ _ _ _ _)
   | (with_reducible exact ih1 _ _ _ _ _ _ _)
   | (with_reducible exact LeO.refl _)
   | (with_reducible exact LeO.none _)
   | (with_reducible refine LeO.ite ?_ ?_)
   | (with_reducible refine LeO.bind ?_ (fun _ => ?_))
   | exact ih0 _ _ _ _ _ _
   | exact ih1 _ _ _ _ _ _ _
   | exact LeO.none _
   | refine LeO.ite ?_ ?_
   | refine LeO.bind ?_ (fun _ => ?_)
  ·intro y0 y1 y2 y3 y4 y5 y6
   unfold least_next.l1
   repeat' first
   | (with_reducible exact ih0 _ _ _ _ _ _)
   | (with_reducible exact ih1 _ _ _ _ _ _ _)
   | (with_reducible exact LeO.refl _)
   | (with_reducible exact LeO.none _)
   | (with_reducible refine LeO.ite ?_ ?_)
   | (with_reducible refine LeO.bind ?_ (fun _ => ?_))
   | exact ih0 _ _ _ _ _ _
   | exact ih1 _ _ _ _ _ _ _
   | exact LeO.none _
   | refine LeO.ite ?_ ?_
   | refine LeO.bind ?_ (fun _ => ?_)
theorem least_next.mono : ∀ a0 a1 a2 a3 a4 k, LeO (least_next.f k a0 a1 a2 a3 a4) (least_next.f (k + 1) a0 a1 a2 a3 a4) := by
 intro a0 a1 a2 a3 a4 k
 obtain ⟨ih0, ih1⟩ := least_next.mono_l k
 unfold least_next.f
 repeat' first
   | (with_reducible exact ih0 _ _ _ _ _ _)
   | (with_reducible exact ih1 _ _ _ _ _ _ _)
   | (with_reducible exact LeO.refl _)
   | (with_reducible exact LeO.none _)
   | (with_reducible refine LeO.ite ?_ ?_)
   | (with_reducible refine LeO.bind ?_ (fun _ => ?_))
   | exact ih0 _ _ _ _ _ _
   | exact ih1 _ _ _ _ _ _ _
   | exact LeO.none _
   | refine LeO.ite ?_ ?_
   | refine LeO.bind ?_ (fun _ => ?_)
set_option maxHeartbeats 8000000 in
set_option maxRecDepth 100000 in
theorem least_next.calls (k : Nat) (A0 : Option Addr) (c0 : Nat) (l0 : List (List Int)) (A1 : Option Addr) (c1 : Nat) (l1 : List Int) (A2 : Option Addr) (c2 : Nat) (l2 : List Int) (a3 : Int) (a4 : Int) (r1 : Int) (r2 : Int) (r3 : Bool) (w : World) (hr0 : Kd.C (Kd.slice 3 (Kd.int .i64)) w A0 l0.length l0) (hc0 : l0.length ≤ c0) (hr1 : Kd.C (Kd.int .i64) w A1 l1.length l1) (hc1 : l1.length ≤ c1) (hr2 : Kd.C (Kd.int .i64) w A2 l2.length l2) (hc2 : l2.length ≤ c2) (h : least_next.f k l0 l1 l2 a3 a4 = some (r1, r2, r3)) :
  Calls Tryz.prog 133 #[.slice A0 l0.length c0, .slice A1 l1.length c1, .slice A2 l2.length c2, .int .i64 a3, .int .i64 a4] w fun e w' => e = .returned (.tuple #[.agg #[.int .i64 r1, .int .i64 r2], .bool r3]) ∧ Below w.heap.size w w' := by
 have hu54 := Tryz.underlying54
 have HR0 := Aside0.mk hr0
 have HC0 := Aside0.mk hc0
 clear hr0 hc0
 have HR1 := Aside0.mk hr1
 have HC1 := Aside0.mk hc1
 clear hr1 hc1
 have HR2 := Aside0.mk hr2
 have HC2 := Aside0.mk hc2
 clear hr2 hc2
 have HB := Aside0.mk (Below.refl w.heap.size w)
 have H : (if 0 ≤ a3 then (if a3 < (l0.length : Int) then (if 0 ≤ a4 then (if a4 < ((rd_L4 l0 a3).length : Int) then (if (rd (rd_L4 l0 a3) a4) = 0 then (some (0, 0, false)) else (least_next.l0 k l0 l1 l2 a4 (rd (rd_L4 l0 a3) a4) a3)) else (none)) else (none)) else (none)) else (none)) = some (r1, r2, r3) := h
 clear h
 by_cases c6 : 0 ≤ a3
 ·rw [if_pos c6] at H
  have c6b0 : decide (0 ≤ a3) = true := decide_eq_true c6
  clear c6
  by_cases c7 : a3 < (l0.length : Int)
  ·rw [if_pos c7] at H
   have c7b0 : decide (a3 < (l0.length : Int)) = true := decide_eq_true c7
   clear c7
   by_cases c8 : 0 ≤ a4
   ·rw [if_pos c8] at H
    have c8b0 : decide (0 ≤ a4) = true := decide_eq_true c8
    clear c8
    by_cases c9 : a4 < ((rd_L4 l0 a3).length : Int)
    ·rw [if_pos c9] at H
     have c9b0 : decide (a4 < ((rd_L4 l0 a3).length : Int)) = true := decide_eq_true c9
     clear c9
     by_cases c10 : (rd (rd_L4 l0 a3) a4) = 0
     ·rw [if_pos c10] at H
      have c10b0 : ((rd (rd_L4 l0 a3) a4) == 0) = true := beq_iff_eq.mpr c10
      have c10b1 : ((rd (rd_L4 l0 a3) a4) != 0) = false := bne_eq_false_iff_eq.mpr c10
      clear c10
      simp only [Option.some.injEq, Prod.mk.injEq] at H
      obtain ⟨rfl, rfl, rfl⟩ := H
      go_enter Tryz.func133, Tryz.ntmps133
      try dsimp only [List.append]
      go_wp2_with (first | ((with_reducible refine gate_dst (N := 10) rfl ?_); refine box_event ?hg (N := 10) ?hd (cs := #[.int .i64 0, .int .i64 0]) (t := 54) ?hr ?_; (case hd => rfl); (case hg => rfl); (case hr => first | (go_simp; done) | (go_simp; rfl)); intro gb638 hg w11 hbox hb; have n0_ := Aside0.mk (below_step (by repeat (first | (with_reducible first | exact HB.out | apply below_alloc | apply pw_below_drewN | apply below_drew1) | exact HB.out)) hb); have n1_ := Aside0.mk (hbox); have n2_ := Aside0.mk ((by rw [hg]; exact (below_size (by repeat (first | (with_reducible first | exact HB.out | apply below_alloc | apply pw_below_drewN | apply below_drew1) | exact HB.out))) : w.heap.size ≤ gb638)); have n3_ := Aside0.mk ((by rw [hg]; exact (below_size (by repeat (first | (with_reducible first | exact HB.out | apply below_alloc | apply pw_below_drewN | apply below_drew1) | exact HB.out))) : w.heap.size ≤ gb638)); clear HB; have HB := n0_; have BK638 := n1_; have GW638 := n2_; have GE638 := n3_; clear n0_ n1_ n2_ n3_; (try clear hb); (try clear hbox); (try clear hg); have p639 : 0 ≤ (a3 : Int) := of_decide_eq_true (by first | (with_reducible assumption) | assumption); have q639 : a3 < (l0.length : Int) := of_decide_eq_true (by first | (with_reducible assumption) | assumption); obtain ⟨ad639, A639_0, c639_0, e639, hx639_0, hl639_0, hi639_0⟩ := at_L4 HR0.out a3 p639 q639; cases e639; replace hx639_0 := (HB.out.cell (World.block_lt_of_cell? w _ hx639_0)).trans hx639_0; have HR639_0 := Aside0.mk hi639_0; have HC639_0 := Aside0.mk hl639_0; (try clear hi639_0); (try clear hl639_0); replace p639 := eq_true p639; replace q639 := eq_true q639; have p640 : 0 ≤ (a4 : Int) := of_decide_eq_true (by first | (with_reducible assumption) | assumption); have q640 : a4 < ((rd_L4 l0 a3).length : Int) := of_decide_eq_true (by first | (with_reducible assumption) | assumption); obtain ⟨ad640, e640, hx640_0⟩ := Kd.at_int HR639_0.out a4 p640 q640; cases e640; replace hx640_0 := (HB.out.cell (World.block_lt_of_cell? w _ hx640_0)).trans hx640_0; replace p640 := eq_true p640; replace q640 := eq_true q640; have hcz12_0 : w11.cell? ⟨gb638, 0, none⟩ = some (.int .i64 0) := (blk_cell BK638.out 0).trans rfl; have hcz12_1 : w11.cell? ⟨gb638, 1, none⟩ = some (.int .i64 0) := (blk_cell BK638.out 1).trans rfl; have hfz12_0 := blk_frozen BK638.out 0; have hfz12_1 := blk_frozen BK638.out 1))
      repeat (go_quiet (first | ((with_reducible refine gate_dst (N := 10) rfl ?_); refine box_event ?hg (N := 10) ?hd (cs := #[.int .i64 0, .int .i64 0]) (t := 54) ?hr ?_; (case hd => rfl); (case hg => rfl); (case hr => first | (go_simp; done) | (go_simp; rfl)); intro gb638 hg w11 hbox hb; have n0_ := Aside0.mk (below_step (by repeat (first | (with_reducible first | exact HB.out | apply below_alloc | apply pw_below_drewN | apply below_drew1) | exact HB.out)) hb); have n1_ := Aside0.mk (hbox); have n2_ := Aside0.mk ((by rw [hg]; exact (below_size (by repeat (first | (with_reducible first | exact HB.out | apply below_alloc | apply pw_below_drewN | apply below_drew1) | exact HB.out))) : w.heap.size ≤ gb638)); have n3_ := Aside0.mk ((by rw [hg]; exact (below_size (by repeat (first | (with_reducible first | exact HB.out | apply below_alloc | apply pw_below_drewN | apply below_drew1) | exact HB.out))) : w.heap.size ≤ gb638)); clear HB; have HB := n0_; have BK638 := n1_; have GW638 := n2_; have GE638 := n3_; clear n0_ n1_ n2_ n3_; (try clear hb); (try clear hbox); (try clear hg); have p639 : 0 ≤ (a3 : Int) := of_decide_eq_true (by first | (with_reducible assumption) | assumption); have q639 : a3 < (l0.length : Int) := of_decide_eq_true (by first | (with_reducible assumption) | assumption); obtain ⟨ad639, A639_0, c639_0, e639, hx639_0, hl639_0, hi639_0⟩ := at_L4 HR0.out a3 p639 q639; cases e639; replace hx639_0 := (HB.out.cell (World.block_lt_of_cell? w _ hx639_0)).trans hx639_0; have HR639_0 := Aside0.mk hi639_0; have HC639_0 := Aside0.mk hl639_0; (try clear hi639_0); (try clear hl639_0); replace p639 := eq_true p639; replace q639 := eq_true q639; have p640 : 0 ≤ (a4 : Int) := of_decide_eq_true (by first | (with_reducible assumption) | assumption); have q640 : a4 < ((rd_L4 l0 a3).length : Int) := of_decide_eq_true (by first | (with_reducible assumption) | assumption); obtain ⟨ad640, e640, hx640_0⟩ := Kd.at_int HR639_0.out a4 p640 q640; cases e640; replace hx640_0 := (HB.out.cell (World.block_lt_of_cell? w _ hx640_0)).trans hx640_0; replace p640 := eq_true p640; replace q640 := eq_true q640; have hcz12_0 : w11.cell? ⟨gb638, 0, none⟩ = some (.int .i64 0) := (blk_cell BK638.out 0).trans rfl; have hcz12_1 : w11.cell? ⟨gb638, 1, none⟩ = some (.int .i64 0) := (blk_cell BK638.out 1).trans rfl; have hfz12_0 := blk_frozen BK638.out 0; have hfz12_1 := blk_frozen BK638.out 1)); try go_wp2_with (first | ((with_reducible refine gate_dst (N := 10) rfl ?_); refine box_event ?hg (N := 10) ?hd (cs := #[.int .i64 0, .int .i64 0]) (t := 54) ?hr ?_; (case hd => rfl); (case hg => rfl); (case hr => first | (go_simp; done) | (go_simp; rfl)); intro gb638 hg w11 hbox hb; have n0_ := Aside0.mk (below_step (by repeat (first | (with_reducible first | exact HB.out | apply below_alloc | apply pw_below_drewN | apply below_drew1) | exact HB.out)) hb); have n1_ := Aside0.mk (hbox); have n2_ := Aside0.mk ((by rw [hg]; exact (below_size (by repeat (first | (with_reducible first | exact HB.out | apply below_alloc | apply pw_below_drewN | apply below_drew1) | exact HB.out))) : w.heap.size ≤ gb638)); have n3_ := Aside0.mk ((by rw [hg]; exact (below_size (by repeat (first | (with_reducible first | exact HB.out | apply below_alloc | apply pw_below_drewN | apply below_drew1) | exact HB.out))) : w.heap.size ≤ gb638)); clear HB; have HB := n0_; have BK638 := n1_; have GW638 := n2_; have GE638 := n3_; clear n0_ n1_ n2_ n3_; (try clear hb); (try clear hbox); (try clear hg); have p639 : 0 ≤ (a3 : Int) := of_decide_eq_true (by first | (with_reducible assumption) | assumption); have q639 : a3 < (l0.length : Int) := of_decide_eq_true (by first | (with_reducible assumption) | assumption); obtain ⟨ad639, A639_0, c639_0, e639, hx639_0, hl639_0, hi639_0⟩ := at_L4 HR0.out a3 p639 q639; cases e639; replace hx639_0 := (HB.out.cell (World.block_lt_of_cell? w _ hx639_0)).trans hx639_0; have HR639_0 := Aside0.mk hi639_0; have HC639_0 := Aside0.mk hl639_0; (try clear hi639_0); (try clear hl639_0); replace p639 := eq_true p639; replace q639 := eq_true q639; have p640 : 0 ≤ (a4 : Int) := of_decide_eq_true (by first | (with_reducible assumption) | assumption); have q640 : a4 < ((rd_L4 l0 a3).length : Int) := of_decide_eq_true (by first | (with_reducible assumption) | assumption); obtain ⟨ad640, e640, hx640_0⟩ := Kd.at_int HR639_0.out a4 p640 q640; cases e640; replace hx640_0 := (HB.out.cell (World.block_lt_of_cell? w _ hx640_0)).trans hx640_0; replace p640 := eq_true p640; replace q640 := eq_true q640; have hcz12_0 : w11.cell? ⟨gb638, 0, none⟩ = some (.int .i64 0) := (blk_cell BK638.out 0).trans rfl; have hcz12_1 : w11.cell? ⟨gb638, 1, none⟩ = some (.int .i64 0) := (blk_cell BK638.out 1).trans rfl; have hfz12_0 := blk_frozen BK638.out 0; have hfz12_1 := blk_frozen BK638.out 1)))
      refine bodyPost_ret (results_ct rfl _ _ gb638 54 #[.int .i64 0, .int .i64 0] (0, 0) _ rfl (by (with_reducible repeat (first | refine blk_drewN ?_ _ | refine blk_drew ?_ | refine blk_alloc ?_ _)); refine blk_put (cs := #[.int .i64 0, .int .i64 0]) ?_ 1 _ rfl; (with_reducible repeat (first | refine blk_drewN ?_ _ | refine blk_drew ?_ | refine blk_alloc ?_ _)); refine blk_put (cs := #[.int .i64 0, .int .i64 0]) ?_ 0 _ rfl; (with_reducible repeat (first | refine blk_drewN ?_ _ | refine blk_drew ?_ | refine blk_alloc ?_ _)); exact BK638.out) Tryz.underlying54 rfl (by kernel_rfl)) rfl ?_
      exact ⟨by first | rfl | (simp [errW_none, errW_some] <;> rfl) | (simp [*, errW_none, errW_some] <;> rfl), by repeat (first | (with_reducible first | exact HB.out | apply below_alloc | apply pw_below_drewN | apply below_drew1 | refine below_set ?_ GE638.out) | exact HB.out)⟩
     ·rw [if_neg c10] at H
      have c10b0 : ((rd (rd_L4 l0 a3) a4) == 0) = false := beq_eq_false_iff_ne.mpr c10
      have c10b1 : ((rd (rd_L4 l0 a3) a4) != 0) = true := bne_iff_ne.mpr c10
      have H' := Aside0.mk H
      clear H
      go_enter Tryz.func133, Tryz.ntmps133
      try dsimp only [List.append]
      go_wp2_with (first | ((with_reducible refine gate_dst (N := 10) rfl ?_); refine box_event ?hg (N := 10) ?hd (cs := #[.int .i64 0, .int .i64 0]) (t := 54) ?hr ?_; (case hd => rfl); (case hg => rfl); (case hr => first | (go_simp; done) | (go_simp; rfl)); intro gb638 hg w13 hbox hb; have n0_ := Aside0.mk (below_step (by repeat (first | (with_reducible first | exact HB.out | apply below_alloc | apply pw_below_drewN | apply below_drew1) | exact HB.out)) hb); have n1_ := Aside0.mk (hbox); have n2_ := Aside0.mk ((by rw [hg]; exact (below_size (by repeat (first | (with_reducible first | exact HB.out | apply below_alloc | apply pw_below_drewN | apply below_drew1) | exact HB.out))) : w.heap.size ≤ gb638)); have n3_ := Aside0.mk ((by rw [hg]; exact (below_size (by repeat (first | (with_reducible first | exact HB.out | apply below_alloc | apply pw_below_drewN | apply below_drew1) | exact HB.out))) : w.heap.size ≤ gb638)); clear HB; have HB := n0_; have BK638 := n1_; have GW638 := n2_; have GE638 := n3_; clear n0_ n1_ n2_ n3_; (try clear hb); (try clear hbox); (try clear hg); have p639 : 0 ≤ (a3 : Int) := of_decide_eq_true (by first | (with_reducible assumption) | assumption); have q639 : a3 < (l0.length : Int) := of_decide_eq_true (by first | (with_reducible assumption) | assumption); obtain ⟨ad639, A639_0, c639_0, e639, hx639_0, hl639_0, hi639_0⟩ := at_L4 HR0.out a3 p639 q639; cases e639; replace hx639_0 := (HB.out.cell (World.block_lt_of_cell? w _ hx639_0)).trans hx639_0; have HR639_0 := Aside0.mk hi639_0; have HC639_0 := Aside0.mk hl639_0; (try clear hi639_0); (try clear hl639_0); replace p639 := eq_true p639; replace q639 := eq_true q639; have p640 : 0 ≤ (a4 : Int) := of_decide_eq_true (by first | (with_reducible assumption) | assumption); have q640 : a4 < ((rd_L4 l0 a3).length : Int) := of_decide_eq_true (by first | (with_reducible assumption) | assumption); obtain ⟨ad640, e640, hx640_0⟩ := Kd.at_int HR639_0.out a4 p640 q640; cases e640; replace hx640_0 := (HB.out.cell (World.block_lt_of_cell? w _ hx640_0)).trans hx640_0; replace p640 := eq_true p640; replace q640 := eq_true q640))
      repeat (go_quiet (first | ((with_reducible refine gate_dst (N := 10) rfl ?_); refine box_event ?hg (N := 10) ?hd (cs := #[.int .i64 0, .int .i64 0]) (t := 54) ?hr ?_; (case hd => rfl); (case hg => rfl); (case hr => first | (go_simp; done) | (go_simp; rfl)); intro gb638 hg w13 hbox hb; have n0_ := Aside0.mk (below_step (by repeat (first | (with_reducible first | exact HB.out | apply below_alloc | apply pw_below_drewN | apply below_drew1) | exact HB.out)) hb); have n1_ := Aside0.mk (hbox); have n2_ := Aside0.mk ((by rw [hg]; exact (below_size (by repeat (first | (with_reducible first | exact HB.out | apply below_alloc | apply pw_below_drewN | apply below_drew1) | exact HB.out))) : w.heap.size ≤ gb638)); have n3_ := Aside0.mk ((by rw [hg]; exact (below_size (by repeat (first | (with_reducible first | exact HB.out | apply below_alloc | apply pw_below_drewN | apply below_drew1) | exact HB.out))) : w.heap.size ≤ gb638)); clear HB; have HB := n0_; have BK638 := n1_; have GW638 := n2_; have GE638 := n3_; clear n0_ n1_ n2_ n3_; (try clear hb); (try clear hbox); (try clear hg); have p639 : 0 ≤ (a3 : Int) := of_decide_eq_true (by first | (with_reducible assumption) | assumption); have q639 : a3 < (l0.length : Int) := of_decide_eq_true (by first | (with_reducible assumption) | assumption); obtain ⟨ad639, A639_0, c639_0, e639, hx639_0, hl639_0, hi639_0⟩ := at_L4 HR0.out a3 p639 q639; cases e639; replace hx639_0 := (HB.out.cell (World.block_lt_of_cell? w _ hx639_0)).trans hx639_0; have HR639_0 := Aside0.mk hi639_0; have HC639_0 := Aside0.mk hl639_0; (try clear hi639_0); (try clear hl639_0); replace p639 := eq_true p639; replace q639 := eq_true q639; have p640 : 0 ≤ (a4 : Int) := of_decide_eq_true (by first | (with_reducible assumption) | assumption); have q640 : a4 < ((rd_L4 l0 a3).length : Int) := of_decide_eq_true (by first | (with_reducible assumption) | assumption); obtain ⟨ad640, e640, hx640_0⟩ := Kd.at_int HR639_0.out a4 p640 q640; cases e640; replace hx640_0 := (HB.out.cell (World.block_lt_of_cell? w _ hx640_0)).trans hx640_0; replace p640 := eq_true p640; replace q640 := eq_true q640)); try go_wp2_with (first | ((with_reducible refine gate_dst (N := 10) rfl ?_); refine box_event ?hg (N := 10) ?hd (cs := #[.int .i64 0, .int .i64 0]) (t := 54) ?hr ?_; (case hd => rfl); (case hg => rfl); (case hr => first | (go_simp; done) | (go_simp; rfl)); intro gb638 hg w13 hbox hb; have n0_ := Aside0.mk (below_step (by repeat (first | (with_reducible first | exact HB.out | apply below_alloc | apply pw_below_drewN | apply below_drew1) | exact HB.out)) hb); have n1_ := Aside0.mk (hbox); have n2_ := Aside0.mk ((by rw [hg]; exact (below_size (by repeat (first | (with_reducible first | exact HB.out | apply below_alloc | apply pw_below_drewN | apply below_drew1) | exact HB.out))) : w.heap.size ≤ gb638)); have n3_ := Aside0.mk ((by rw [hg]; exact (below_size (by repeat (first | (with_reducible first | exact HB.out | apply below_alloc | apply pw_below_drewN | apply below_drew1) | exact HB.out))) : w.heap.size ≤ gb638)); clear HB; have HB := n0_; have BK638 := n1_; have GW638 := n2_; have GE638 := n3_; clear n0_ n1_ n2_ n3_; (try clear hb); (try clear hbox); (try clear hg); have p639 : 0 ≤ (a3 : Int) := of_decide_eq_true (by first | (with_reducible assumption) | assumption); have q639 : a3 < (l0.length : Int) := of_decide_eq_true (by first | (with_reducible assumption) | assumption); obtain ⟨ad639, A639_0, c639_0, e639, hx639_0, hl639_0, hi639_0⟩ := at_L4 HR0.out a3 p639 q639; cases e639; replace hx639_0 := (HB.out.cell (World.block_lt_of_cell? w _ hx639_0)).trans hx639_0; have HR639_0 := Aside0.mk hi639_0; have HC639_0 := Aside0.mk hl639_0; (try clear hi639_0); (try clear hl639_0); replace p639 := eq_true p639; replace q639 := eq_true q639; have p640 : 0 ≤ (a4 : Int) := of_decide_eq_true (by first | (with_reducible assumption) | assumption); have q640 : a4 < ((rd_L4 l0 a3).length : Int) := of_decide_eq_true (by first | (with_reducible assumption) | assumption); obtain ⟨ad640, e640, hx640_0⟩ := Kd.at_int HR639_0.out a4 p640 q640; cases e640; replace hx640_0 := (HB.out.cell (World.block_lt_of_cell? w _ hx640_0)).trans hx640_0; replace p640 := eq_true p640; replace q640 := eq_true q640)))
      go_loopg [13] k (fun kq v13 w' => ∃ (x13_1 : Int) (x639000_1 : Int) (x639001_1 : Int), v13 = .int .i64 x13_1 ∧ Aside0 (least_next.l0 kq l0 l1 l2 a4 (rd (rd_L4 l0 a3) a4) x13_1 = some (r1, r2, r3)) ∧ Aside0 (kq ≤ k) ∧ Aside0 (w'.heap[gb638]? = some (.cells #[.int .i64 x639000_1, .int .i64 x639001_1] 54 (0, 0))) ∧ Aside0 (Below w.heap.size w w'))
      case atStart => exact ⟨(a3), (0), (0), (by first | rfl | (simp; done) | (simp [*]; done)), H', ⟨Nat.le_refl _⟩, ⟨by (with_reducible repeat (first | refine blk_drewN ?_ _ | refine blk_drew ?_ | refine blk_alloc ?_ _)); exact BK638.out⟩, ⟨by repeat (first | (with_reducible first | exact HB.out | apply below_alloc | apply pw_below_drewN | apply below_drew1 | refine below_set ?_ GE638.out) | exact HB.out)⟩⟩
      case round =>
       clear H'
       try clear c1
       try clear c2
       try clear p2
       try clear c6
       try clear c6b0
       try clear p6
       try clear q6
       try clear hx6
       try clear c7
       try clear c7b0
       try clear c8
       try clear c8b0
       try clear c9
       try clear c9b0
       try clear c10
       try clear c10b0
       try clear c10b1
       try clear c13
       try clear hcz12_0
       try clear hcz12_1
       try clear hfz12_0
       try clear hfz12_1
       try clear hx639_0
       try clear hx640_0
       try clear p639
       try clear p640
       try clear q639
       try clear q640
       obtain ⟨x13_1, x639000_1, x639001_1, rfl, HA, HK1, BK638, HB⟩ := hrel
       cases gk with
       | zero => exact absurd HA.out (by simp [least_next.l0])
       | succ k1 =>
        have H := HA.out
        clear HA
        simp only [least_next.l0] at H
        by_cases c14 : x13_1 < (l1.length : Int)
        ·rw [if_pos c14] at H
         have c14b0 : decide (x13_1 < (l1.length : Int)) = true := decide_eq_true c14
         clear c14
         have H' := Aside0.mk H
         clear H
         go_wp2
         repeat (go_quiet (fail); try go_wp2)
         go_loopg [14] k1 (fun kq v14 w' => ∃ (x14_2 : Int) (x639000_2 : Int) (x639001_2 : Int), v14 = .int .i64 x14_2 ∧ Aside0 (least_next.l1 kq l0 l1 l2 a4 (rd (rd_L4 l0 a3) a4) x13_1 x14_2 = some (r1, r2, r3)) ∧ Aside0 (kq ≤ k1) ∧ Aside0 (w'.heap[gb638]? = some (.cells #[.int .i64 x639000_2, .int .i64 x639001_2] 54 (0, 0))) ∧ Aside0 (Below w.heap.size w w'))
         case atStart => exact ⟨(a4), (x639000_1), (x639001_1), (by first | rfl | (simp; done) | (simp [*]; done)), H', ⟨Nat.le_refl _⟩, ⟨by (with_reducible repeat (first | refine blk_drewN ?_ _ | refine blk_drew ?_ | refine blk_alloc ?_ _)); exact BK638.out⟩, ⟨by repeat (first | (with_reducible first | exact HB.out | apply below_alloc | apply pw_below_drewN | apply below_drew1 | refine below_set ?_ GE638.out) | exact HB.out)⟩⟩
         case round =>
          clear H'
          try clear c1
          try clear c2
          try clear p2
          try clear c6
          try clear c6b0
          try clear p6
          try clear q6
          try clear hx6
          try clear c7
          try clear c7b0
          try clear c8
          try clear c8b0
          try clear c9
          try clear c9b0
          try clear c10
          try clear c10b0
          try clear c10b1
          try clear c13
          try clear c14
          try clear c14b0
          try clear hcz12_0
          try clear hcz12_1
          try clear hfz12_0
          try clear hfz12_1
          try clear hx639_0
          try clear hx640_0
          try clear p2
          try clear p6
          try clear p639
          try clear p640
          try clear q6
          try clear q639
          try clear q640
          obtain ⟨x14_2, x639000_2, x639001_2, rfl, HA, HK2, BK638, HB⟩ := hrel
          cases gk with
          | zero => exact absurd HA.out (by simp [least_next.l1])
          | succ k2 =>
           have H := HA.out
           clear HA
           simp only [least_next.l1] at H
           by_cases c15 : x14_2 < (l2.length : Int)
           ·rw [if_pos c15] at H
            have c15b0 : decide (x14_2 < (l2.length : Int)) = true := decide_eq_true c15
            clear c15
            by_cases c16 : 0 ≤ x13_1
            ·rw [if_pos c16] at H
             have c16b0 : decide (0 ≤ x13_1) = true := decide_eq_true c16
             clear c16
             by_cases c17 : x13_1 < (l1.length : Int)
             ·rw [if_pos c17] at H
              have c17b0 : decide (x13_1 < (l1.length : Int)) = true := decide_eq_true c17
              clear c17
              by_cases c18 : 0 ≤ x14_2
              ·rw [if_pos c18] at H
               have c18b0 : decide (0 ≤ x14_2) = true := decide_eq_true c18
               clear c18
               by_cases c19 : (rd l1 x13_1) = (rd l2 x14_2)
               ·rw [if_pos c19] at H
                have c19b0 : ((rd l1 x13_1) == (rd l2 x14_2)) = true := beq_iff_eq.mpr c19
                have c19b1 : ((rd l1 x13_1) != (rd l2 x14_2)) = false := bne_eq_false_iff_eq.mpr c19
                clear c19
                obtain ⟨ji20, hji20⟩ : ∃ j_ : Int, (wrap64 (x13_1 + 1)) = j_ := ⟨_, rfl⟩
                replace H : (if 0 ≤ (ji20) then (if (ji20) < (l0.length : Int) then (if 0 ≤ (wrap64 (x14_2 + 1)) then (if (wrap64 (x14_2 + 1)) < ((rd_L4 l0 (ji20)).length : Int) then (if (wrap64 ((rd (rd_L4 l0 (ji20)) (wrap64 (x14_2 + 1))) + 1)) = (rd (rd_L4 l0 a3) a4) then (some (x13_1, x14_2, true)) else (least_next.l1 k2 l0 l1 l2 a4 (rd (rd_L4 l0 a3) a4) x13_1 (wrap64 (x14_2 + 1)))) else (none)) else (none)) else (none)) else (none)) = some (r1, r2, r3) := by first | (rw [hji20] at H; exact H) | (simp only [hji20] at H ⊢; exact H)
                have hji20w : (IntKind.i64.wrap (x13_1 + 1)) = ji20 := (i64_w _).trans hji20
                by_cases c21 : 0 ≤ (ji20)
                ·rw [if_pos c21] at H
                 have c21b0 : decide (0 ≤ (ji20)) = true := decide_eq_true c21
                 clear c21
                 by_cases c22 : (ji20) < (l0.length : Int)
                 ·rw [if_pos c22] at H
                  have c22b0 : decide ((ji20) < (l0.length : Int)) = true := decide_eq_true c22
                  clear c22
                  obtain ⟨ji23, hji23⟩ : ∃ j_ : Int, (wrap64 (x14_2 + 1)) = j_ := ⟨_, rfl⟩
                  replace H : (if 0 ≤ (ji23) then (if (ji23) < ((rd_L4 l0 (ji20)).length : Int) then (if (wrap64 ((rd (rd_L4 l0 (ji20)) (ji23)) + 1)) = (rd (rd_L4 l0 a3) a4) then (some (x13_1, x14_2, true)) else (least_next.l1 k2 l0 l1 l2 a4 (rd (rd_L4 l0 a3) a4) x13_1 ji23)) else (none)) else (none)) = some (r1, r2, r3) := by first | (rw [hji23] at H; exact H) | (simp only [hji23] at H ⊢; exact H)
                  have hji23w : (IntKind.i64.wrap (x14_2 + 1)) = ji23 := (i64_w _).trans hji23
                  by_cases c24 : 0 ≤ (ji23)
                  ·rw [if_pos c24] at H
                   have c24b0 : decide (0 ≤ (ji23)) = true := decide_eq_true c24
                   clear c24
                   by_cases c25 : (ji23) < ((rd_L4 l0 (ji20)).length : Int)
                   ·rw [if_pos c25] at H
                    have c25b0 : decide ((ji23) < ((rd_L4 l0 (ji20)).length : Int)) = true := decide_eq_true c25
                    clear c25
                    by_cases c26 : (wrap64 ((rd (rd_L4 l0 (ji20)) (ji23)) + 1)) = (rd (rd_L4 l0 a3) a4)
                    ·rw [if_pos c26] at H
                     have c26b0 : ((wrap64 ((rd (rd_L4 l0 (ji20)) (ji23)) + 1)) == (rd (rd_L4 l0 a3) a4)) = true := beq_iff_eq.mpr c26
                     have c26b1 : ((wrap64 ((rd (rd_L4 l0 (ji20)) (ji23)) + 1)) != (rd (rd_L4 l0 a3) a4)) = false := bne_eq_false_iff_eq.mpr c26
                     clear c26
                     simp only [Option.some.injEq, Prod.mk.injEq] at H
                     obtain ⟨rfl, rfl, rfl⟩ := H
                     have p641 : 0 ≤ (x13_1 : Int) := of_decide_eq_true (by first | (with_reducible assumption) | assumption)
                     have q641 : x13_1 < (l1.length : Int) := of_decide_eq_true (by first | (with_reducible assumption) | assumption)
                     obtain ⟨ad641, e641, hx641_0⟩ := Kd.at_int HR1.out x13_1 p641 q641
                     cases e641
                     replace hx641_0 := (HB.out.cell (World.block_lt_of_cell? w _ hx641_0)).trans hx641_0
                     replace p641 := eq_true p641
                     replace q641 := eq_true q641
                     have p642 : 0 ≤ (x14_2 : Int) := of_decide_eq_true (by first | (with_reducible assumption) | assumption)
                     have q642 : x14_2 < (l2.length : Int) := of_decide_eq_true (by first | (with_reducible assumption) | assumption)
                     obtain ⟨ad642, e642, hx642_0⟩ := Kd.at_int HR2.out x14_2 p642 q642
                     cases e642
                     replace hx642_0 := (HB.out.cell (World.block_lt_of_cell? w _ hx642_0)).trans hx642_0
                     replace p642 := eq_true p642
                     replace q642 := eq_true q642
                     have p643 : 0 ≤ ((ji20) : Int) := of_decide_eq_true (by first | (with_reducible assumption) | assumption)
                     have q643 : (ji20) < (l0.length : Int) := of_decide_eq_true (by first | (with_reducible assumption) | assumption)
                     obtain ⟨ad643, A643_0, c643_0, e643, hx643_0, hl643_0, hi643_0⟩ := at_L4 HR0.out (ji20) p643 q643
                     obtain rfl : ad639 = ad643 := (by injection e643)
                     replace hx643_0 := (HB.out.cell (World.block_lt_of_cell? w _ hx643_0)).trans hx643_0
                     have HR643_0 := Aside0.mk hi643_0
                     have HC643_0 := Aside0.mk hl643_0
                     clear hi643_0 hl643_0
                     replace p643 := eq_true p643
                     replace q643 := eq_true q643
                     have p644 : 0 ≤ ((ji23) : Int) := of_decide_eq_true (by first | (with_reducible assumption) | assumption)
                     have q644 : (ji23) < ((rd_L4 l0 (ji20)).length : Int) := of_decide_eq_true (by first | (with_reducible assumption) | assumption)
                     obtain ⟨ad644, e644, hx644_0⟩ := Kd.at_int HR643_0.out (ji23) p644 q644
                     cases e644
                     replace hx644_0 := (HB.out.cell (World.block_lt_of_cell? w _ hx644_0)).trans hx644_0
                     replace p644 := eq_true p644
                     replace q644 := eq_true q644
                     have hcz27_0 : wr.cell? ⟨gb638, 0, none⟩ = some (.int .i64 x639000_2) := (blk_cell BK638.out 0).trans rfl
                     have hcz27_1 : wr.cell? ⟨gb638, 1, none⟩ = some (.int .i64 x639001_2) := (blk_cell BK638.out 1).trans rfl
                     have hfz27_0 := blk_frozen BK638.out 0
                     have hfz27_1 := blk_frozen BK638.out 1
                     go_wp2
                     repeat (go_quiet (fail); try go_wp2)
                     refine bodyPost_ret (results_ct rfl _ _ gb638 54 #[.int .i64 x13_1, .int .i64 x14_2] (0, 0) _ rfl (by (with_reducible repeat (first | refine blk_drewN ?_ _ | refine blk_drew ?_ | refine blk_alloc ?_ _)); refine blk_put (cs := #[.int .i64 x13_1, .int .i64 x639001_2]) ?_ 1 _ rfl; (with_reducible repeat (first | refine blk_drewN ?_ _ | refine blk_drew ?_ | refine blk_alloc ?_ _)); refine blk_put (cs := #[.int .i64 x639000_2, .int .i64 x639001_2]) ?_ 0 _ rfl; (with_reducible repeat (first | refine blk_drewN ?_ _ | refine blk_drew ?_ | refine blk_alloc ?_ _)); exact BK638.out) Tryz.underlying54 rfl (by kernel_rfl)) rfl ?_
                     exact ⟨by first | rfl | (simp [errW_none, errW_some] <;> rfl) | (simp only [← hji20, ← hji23]; first | rfl | (simp [errW_none, errW_some] <;> rfl)) | (simp [*, errW_none, errW_some] <;> rfl), by repeat (first | (with_reducible first | exact HB.out | apply below_alloc | apply pw_below_drewN | apply below_drew1 | refine below_set ?_ GE638.out) | exact HB.out)⟩
                    ·rw [if_neg c26] at H
                     have c26b0 : ((wrap64 ((rd (rd_L4 l0 (ji20)) (ji23)) + 1)) == (rd (rd_L4 l0 a3) a4)) = false := beq_eq_false_iff_ne.mpr c26
                     have c26b1 : ((wrap64 ((rd (rd_L4 l0 (ji20)) (ji23)) + 1)) != (rd (rd_L4 l0 a3) a4)) = true := bne_iff_ne.mpr c26
                     have H' := Aside0.mk H
                     clear H
                     have p641 : 0 ≤ (x13_1 : Int) := of_decide_eq_true (by first | (with_reducible assumption) | assumption)
                     have q641 : x13_1 < (l1.length : Int) := of_decide_eq_true (by first | (with_reducible assumption) | assumption)
                     obtain ⟨ad641, e641, hx641_0⟩ := Kd.at_int HR1.out x13_1 p641 q641
                     cases e641
                     replace hx641_0 := (HB.out.cell (World.block_lt_of_cell? w _ hx641_0)).trans hx641_0
                     replace p641 := eq_true p641
                     replace q641 := eq_true q641
                     have p642 : 0 ≤ (x14_2 : Int) := of_decide_eq_true (by first | (with_reducible assumption) | assumption)
                     have q642 : x14_2 < (l2.length : Int) := of_decide_eq_true (by first | (with_reducible assumption) | assumption)
                     obtain ⟨ad642, e642, hx642_0⟩ := Kd.at_int HR2.out x14_2 p642 q642
                     cases e642
                     replace hx642_0 := (HB.out.cell (World.block_lt_of_cell? w _ hx642_0)).trans hx642_0
                     replace p642 := eq_true p642
                     replace q642 := eq_true q642
                     have p643 : 0 ≤ ((ji20) : Int) := of_decide_eq_true (by first | (with_reducible assumption) | assumption)
                     have q643 : (ji20) < (l0.length : Int) := of_decide_eq_true (by first | (with_reducible assumption) | assumption)
                     obtain ⟨ad643, A643_0, c643_0, e643, hx643_0, hl643_0, hi643_0⟩ := at_L4 HR0.out (ji20) p643 q643
                     obtain rfl : ad639 = ad643 := (by injection e643)
                     replace hx643_0 := (HB.out.cell (World.block_lt_of_cell? w _ hx643_0)).trans hx643_0
                     have HR643_0 := Aside0.mk hi643_0
                     have HC643_0 := Aside0.mk hl643_0
                     clear hi643_0 hl643_0
                     replace p643 := eq_true p643
                     replace q643 := eq_true q643
                     have p644 : 0 ≤ ((ji23) : Int) := of_decide_eq_true (by first | (with_reducible assumption) | assumption)
                     have q644 : (ji23) < ((rd_L4 l0 (ji20)).length : Int) := of_decide_eq_true (by first | (with_reducible assumption) | assumption)
                     obtain ⟨ad644, e644, hx644_0⟩ := Kd.at_int HR643_0.out (ji23) p644 q644
                     cases e644
                     replace hx644_0 := (HB.out.cell (World.block_lt_of_cell? w _ hx644_0)).trans hx644_0
                     replace p644 := eq_true p644
                     replace q644 := eq_true q644
                     go_wp2
                     repeat (go_quiet (fail); try go_wp2)
                     go_roundg k2
                     case measure => have := HK1.out; have := HK2.out; omega
                     case rel => exact ⟨(ji23), (x639000_2), (x639001_2), (by first | rfl | (simp; done) | (simp only [← hji23] <;> (first | rfl | simp)) | (simp [*]; done)), H', ⟨by have := HK1.out; have := HK2.out; omega⟩, ⟨by (with_reducible repeat (first | refine blk_drewN ?_ _ | refine blk_drew ?_ | refine blk_alloc ?_ _)); exact BK638.out⟩, ⟨by repeat (first | (with_reducible first | exact HB.out | apply below_alloc | apply pw_below_drewN | apply below_drew1 | refine below_set ?_ GE638.out) | exact HB.out)⟩⟩
                   ·rw [if_neg c25] at H
                    exact absurd H (by simp)
                  ·rw [if_neg c24] at H
                   exact absurd H (by simp)
                 ·rw [if_neg c22] at H
                  exact absurd H (by simp)
                ·rw [if_neg c21] at H
                 exact absurd H (by simp)
               ·rw [if_neg c19] at H
                have c19b0 : ((rd l1 x13_1) == (rd l2 x14_2)) = false := beq_eq_false_iff_ne.mpr c19
                have c19b1 : ((rd l1 x13_1) != (rd l2 x14_2)) = true := bne_iff_ne.mpr c19
                have H' := Aside0.mk H
                clear H
                have p641 : 0 ≤ (x13_1 : Int) := of_decide_eq_true (by first | (with_reducible assumption) | assumption)
                have q641 : x13_1 < (l1.length : Int) := of_decide_eq_true (by first | (with_reducible assumption) | assumption)
                obtain ⟨ad641, e641, hx641_0⟩ := Kd.at_int HR1.out x13_1 p641 q641
                cases e641
                replace hx641_0 := (HB.out.cell (World.block_lt_of_cell? w _ hx641_0)).trans hx641_0
                replace p641 := eq_true p641
                replace q641 := eq_true q641
                have p642 : 0 ≤ (x14_2 : Int) := of_decide_eq_true (by first | (with_reducible assumption) | assumption)
                have q642 : x14_2 < (l2.length : Int) := of_decide_eq_true (by first | (with_reducible assumption) | assumption)
                obtain ⟨ad642, e642, hx642_0⟩ := Kd.at_int HR2.out x14_2 p642 q642
                cases e642
                replace hx642_0 := (HB.out.cell (World.block_lt_of_cell? w _ hx642_0)).trans hx642_0
                replace p642 := eq_true p642
                replace q642 := eq_true q642
                go_wp2
                repeat (go_quiet (fail); try go_wp2)
                go_roundg k2
                case measure => have := HK1.out; have := HK2.out; omega
                case rel => exact ⟨(wrap64 (x14_2 + 1)), (x639000_2), (x639001_2), (by first | rfl | (simp; done) | (simp [*]; done)), H', ⟨by have := HK1.out; have := HK2.out; omega⟩, ⟨by (with_reducible repeat (first | refine blk_drewN ?_ _ | refine blk_drew ?_ | refine blk_alloc ?_ _)); exact BK638.out⟩, ⟨by repeat (first | (with_reducible first | exact HB.out | apply below_alloc | apply pw_below_drewN | apply below_drew1 | refine below_set ?_ GE638.out) | exact HB.out)⟩⟩
              ·rw [if_neg c18] at H
               exact absurd H (by simp)
             ·rw [if_neg c17] at H
              exact absurd H (by simp)
            ·rw [if_neg c16] at H
             exact absurd H (by simp)
           ·rw [if_neg c15] at H
            have c15b0 : decide (x14_2 < (l2.length : Int)) = false := decide_eq_false c15
            clear c15
            have H' := Aside0.mk H
            clear H
            go_wp2
            repeat (go_quiet (fail); try go_wp2)
            go_roundg k2
            case measure => have := HK1.out; have := HK2.out; omega
            case rel => exact ⟨(wrap64 (x13_1 + 1)), (x639000_2), (x639001_2), (by first | rfl | (simp; done) | (simp [*]; done)), H', ⟨by have := HK1.out; have := HK2.out; omega⟩, ⟨by (with_reducible repeat (first | refine blk_drewN ?_ _ | refine blk_drew ?_ | refine blk_alloc ?_ _)); exact BK638.out⟩, ⟨by repeat (first | (with_reducible first | exact HB.out | apply below_alloc | apply pw_below_drewN | apply below_drew1 | refine below_set ?_ GE638.out) | exact HB.out)⟩⟩
        ·rw [if_neg c14] at H
         have c14b0 : decide (x13_1 < (l1.length : Int)) = false := decide_eq_false c14
         clear c14
         simp only [Option.some.injEq, Prod.mk.injEq] at H
         obtain ⟨rfl, rfl, rfl⟩ := H
         have hcz28_0 : wr.cell? ⟨gb638, 0, none⟩ = some (.int .i64 x639000_1) := (blk_cell BK638.out 0).trans rfl
         have hcz28_1 : wr.cell? ⟨gb638, 1, none⟩ = some (.int .i64 x639001_1) := (blk_cell BK638.out 1).trans rfl
         have hfz28_0 := blk_frozen BK638.out 0
         have hfz28_1 := blk_frozen BK638.out 1
         go_wp2
         repeat (go_quiet (fail); try go_wp2)
         refine bodyPost_ret (results_ct rfl _ _ gb638 54 #[.int .i64 0, .int .i64 0] (0, 0) _ rfl (by (with_reducible repeat (first | refine blk_drewN ?_ _ | refine blk_drew ?_ | refine blk_alloc ?_ _)); refine blk_put (cs := #[.int .i64 0, .int .i64 x639001_1]) ?_ 1 _ rfl; (with_reducible repeat (first | refine blk_drewN ?_ _ | refine blk_drew ?_ | refine blk_alloc ?_ _)); refine blk_put (cs := #[.int .i64 x639000_1, .int .i64 x639001_1]) ?_ 0 _ rfl; (with_reducible repeat (first | refine blk_drewN ?_ _ | refine blk_drew ?_ | refine blk_alloc ?_ _)); exact BK638.out) Tryz.underlying54 rfl (by kernel_rfl)) rfl ?_
         exact ⟨by first | rfl | (simp [errW_none, errW_some] <;> rfl) | (simp [*, errW_none, errW_some] <;> rfl), by repeat (first | (with_reducible first | exact HB.out | apply below_alloc | apply pw_below_drewN | apply below_drew1 | refine below_set ?_ GE638.out) | exact HB.out)⟩
    ·rw [if_neg c9] at H
     exact absurd H (by simp)
   ·rw [if_neg c8] at H
    exact absurd H (by simp)
  ·rw [if_neg c7] at H
   exact absurd H (by simp)
 ·rw [if_neg c6] at H
  exact absurd H (by simp)
def least_Of.l0 : Nat → List Int → List Int → List (List Int) → List (S54) → Int → Int → Option ((List (S54)))
 | 0, _, _, _, _, _, _ => none
 | k + 1, x0, x1, x5, x6, x7, x8 => (least_next.f k x5 x0 x1 x7 x8).bind fun bt648 => (if bt648.2.2 = true then (if x6.length < 8796093022208 then (least_Of.l0 k x0 x1 x5 (x6 ++ [(⟨bt648.1, bt648.2.1⟩ : S54)]) (wrap64 (bt648.1 + 1)) (wrap64 (bt648.2.1 + 1))) else (none)) else (some x6))
def least_Of.f (k : Nat) (l0 : List Int) (l1 : List Int) : Option ((List (S54))) := (grid_Behind.f k l0 l1).bind fun t645 => (least_Of.l0 k l0 l1 t645 ([] : List (S54)) 0 0)
theorem least_Of.mono_l : ∀ k, (∀ y0 y1 y2 y3 y4 y5, LeO (least_Of.l0 k y0 y1 y2 y3 y4 y5) (least_Of.l0 (k + 1) y0 y1 y2 y3 y4 y5))
 | 0 => fun _ _ _ _ _ _ r h => by simp [least_Of.l0] at h
 | k + 1 => by
  have ih0 := least_Of.mono_l k
  ·intro y0 y1 y2 y3 y4 y5
   unfold least_Of.l0
   repeat' first
   | (with_reducible exact ih0 _ _ _ _ _ _)
   | (with_reducible exact grid_Behind.mono _ _ _)
   | (with_reducible exact least_next.mono _ _ _ _ _ _)
   | (with_reducible exact LeO.refl _)
   | (with_reducible exact LeO.none _)
   | (with_reducible refine LeO.ite ?_ ?_)
   | (with_reducible refine LeO.bind ?_ (fun _ => ?_))
   | exact ih0 _ _ _ _ _ _
   | exact grid_Behind.mono _ _ _
   | exact least_next.mono _ _ _ _ _ _
   | exact LeO.none _
   | refine LeO.ite ?_ ?_
   | refine LeO.bind ?_ (fun _ => ?_)
theorem least_Of.mono : ∀ a0 a1 k, LeO (least_Of.f k a0 a1) (least_Of.f (k + 1) a0 a1) := by
 intro a0 a1 k
 have ih0 := least_Of.mono_l k
 unfold least_Of.f
 repeat' first
   | (with_reducible exact ih0 _ _ _ _ _ _)
   | (with_reducible exact grid_Behind.mono _ _ _)
   | (with_reducible exact least_next.mono _ _ _ _ _ _)
   | (with_reducible exact LeO.refl _)
   | (with_reducible exact LeO.none _)
   | (with_reducible refine LeO.ite ?_ ?_)
   | (with_reducible refine LeO.bind ?_ (fun _ => ?_))
   | exact ih0 _ _ _ _ _ _
   | exact grid_Behind.mono _ _ _
   | exact least_next.mono _ _ _ _ _ _
   | exact LeO.none _
   | refine LeO.ite ?_ ?_
   | refine LeO.bind ?_ (fun _ => ?_)
set_option maxHeartbeats 8000000 in
set_option maxRecDepth 100000 in
theorem least_Of.calls (k : Nat) (A0 : Option Addr) (c0 : Nat) (l0 : List Int) (A1 : Option Addr) (c1 : Nat) (l1 : List Int) (r : List (S54)) (w : World) (hr0 : Kd.C (Kd.int .i64) w A0 l0.length l0) (hc0 : l0.length ≤ c0) (hr1 : Kd.C (Kd.int .i64) w A1 l1.length l1) (hc1 : l1.length ≤ c1) (h : least_Of.f k l0 l1 = some r) :
  Calls Tryz.prog 79 #[.slice A0 l0.length c0, .slice A1 l1.length c1] w fun e w' => ∃ v0_ : Value, e = .returned (v0_) ∧ Kd.R k54 54 w' w.heap.size (fun _ => True) v0_ r ∧ Below w.heap.size w w' := by
 have hu54 := Tryz.underlying54
 have HR0 := Aside0.mk hr0
 have HC0 := Aside0.mk hc0
 clear hr0 hc0
 have HR1 := Aside0.mk hr1
 have HC1 := Aside0.mk hc1
 clear hr1 hc1
 have HB := Aside0.mk (Below.refl w.heap.size w)
 have H : ((grid_Behind.f k l0 l1).bind fun t645 => (least_Of.l0 k l0 l1 t645 ([] : List (S54)) 0 0)) = some r := h
 clear h
 replace H := Option.bind_eq_some_iff.mp H
 obtain ⟨t645, A30, H⟩ := H
 replace H : (least_Of.l0 k l0 l1 t645 ([] : List (S54)) 0 0) = some r := H
 have A3 := Aside0.mk A30
 clear A30
 have H' := Aside0.mk H
 clear H
 go_enter Tryz.func79, Tryz.ntmps79
 go_wp2_with (first | (go_at_call 108; (with_reducible refine (grid_Behind.calls k _ _ l0 _ _ l1 t645 _ ?side1 ?side2 ?side3 ?side4 A3.out).mono ?_); (case side1 => repeat (first | exact HR0.out | (with_reducible refine Kd.C_alloc ?_ _) | (with_reducible refine Kd.C_drewN ?_ _) | (with_reducible refine Kd.C_drew ?_))); (case side2 => exact HC0.out); (case side3 => repeat (first | exact HR1.out | (with_reducible refine Kd.C_alloc ?_ _) | (with_reducible refine Kd.C_drewN ?_ _) | (with_reducible refine Kd.C_drew ?_))); (case side4 => exact HC1.out); rintro e w4 ⟨v646, rfl, ho0, hb⟩; have n0_ := Aside0.mk (Kd.S_lower ho0 (below_size (by repeat (first | (with_reducible first | exact HB.out | apply below_alloc | apply pw_below_drewN | apply below_drew1) | exact HB.out)))); have n1_ := Aside0.mk (below_step (by repeat (first | (with_reducible first | exact HB.out | apply below_alloc | apply pw_below_drewN | apply below_drew1) | exact HB.out)) hb); clear HB; have HO647 := n0_; have HB := n1_; clear n0_ n1_; (try clear hb); (try clear hb2); (try clear hk); (try clear hi); (try clear ho0)))
 repeat (go_quiet (first | (go_at_call 108; (with_reducible refine (grid_Behind.calls k _ _ l0 _ _ l1 t645 _ ?side1 ?side2 ?side3 ?side4 A3.out).mono ?_); (case side1 => repeat (first | exact HR0.out | (with_reducible refine Kd.C_alloc ?_ _) | (with_reducible refine Kd.C_drewN ?_ _) | (with_reducible refine Kd.C_drew ?_))); (case side2 => exact HC0.out); (case side3 => repeat (first | exact HR1.out | (with_reducible refine Kd.C_alloc ?_ _) | (with_reducible refine Kd.C_drewN ?_ _) | (with_reducible refine Kd.C_drew ?_))); (case side4 => exact HC1.out); rintro e w4 ⟨v646, rfl, ho0, hb⟩; have n0_ := Aside0.mk (Kd.S_lower ho0 (below_size (by repeat (first | (with_reducible first | exact HB.out | apply below_alloc | apply pw_below_drewN | apply below_drew1) | exact HB.out)))); have n1_ := Aside0.mk (below_step (by repeat (first | (with_reducible first | exact HB.out | apply below_alloc | apply pw_below_drewN | apply below_drew1) | exact HB.out)) hb); clear HB; have HO647 := n0_; have HB := n1_; clear n0_ n1_; (try clear hb); (try clear hb2); (try clear hk); (try clear hi); (try clear ho0))); try go_wp2_with (first | (go_at_call 108; (with_reducible refine (grid_Behind.calls k _ _ l0 _ _ l1 t645 _ ?side1 ?side2 ?side3 ?side4 A3.out).mono ?_); (case side1 => repeat (first | exact HR0.out | (with_reducible refine Kd.C_alloc ?_ _) | (with_reducible refine Kd.C_drewN ?_ _) | (with_reducible refine Kd.C_drew ?_))); (case side2 => exact HC0.out); (case side3 => repeat (first | exact HR1.out | (with_reducible refine Kd.C_alloc ?_ _) | (with_reducible refine Kd.C_drewN ?_ _) | (with_reducible refine Kd.C_drew ?_))); (case side4 => exact HC1.out); rintro e w4 ⟨v646, rfl, ho0, hb⟩; have n0_ := Aside0.mk (Kd.S_lower ho0 (below_size (by repeat (first | (with_reducible first | exact HB.out | apply below_alloc | apply pw_below_drewN | apply below_drew1) | exact HB.out)))); have n1_ := Aside0.mk (below_step (by repeat (first | (with_reducible first | exact HB.out | apply below_alloc | apply pw_below_drewN | apply below_drew1) | exact HB.out)) hb); clear HB; have HO647 := n0_; have HB := n1_; clear n0_ n1_; (try clear hb); (try clear hb2); (try clear hk); (try clear hi); (try clear ho0))))
 go_loopg [6, 7, 8] k (fun kq v6 v7 v8 w' => ∃ (x6_1 : List (S54)) (x7_1 : Int) (x8_1 : Int), v7 = .int .i64 x7_1 ∧ v8 = .int .i64 x8_1 ∧ Aside0 (least_Of.l0 kq l0 l1 t645 x6_1 x7_1 x8_1 = some r) ∧ Aside0 (kq ≤ k) ∧ Aside0 (Kd.S (Kd.slice 3 (Kd.int .i64)) 25 w' w.heap.size (fun _ => True) v646 t645) ∧ Aside0 (Kd.R k54 54 w' w.heap.size (fun _ => True) v6 x6_1) ∧ Aside0 (Below w.heap.size w w'))
 case atStart => exact ⟨(([] : List (S54))), (0), (0), (by first | rfl | (simp; done) | (simp [*]; done)), (by first | rfl | (simp; done) | (simp [*]; done)), H', ⟨Nat.le_refl _⟩, ⟨by (with_reducible repeat (first | apply Kd.S_alloc | apply Kd.S_drewN | apply Kd.S_drew)); exact HO647.out⟩, ⟨by first | exact Kd.R_nil _ _ _ _ _ | exact Kd.N_nil _ _ _ _ _ | exact Kd.V_nil _ _ _ _ _ | exact Kd.Q_nil _ _ _ _ _ | exact Kd.S_nil _ _ _ _ _⟩, ⟨by repeat (first | (with_reducible first | exact HB.out | apply below_alloc | apply pw_below_drewN | apply below_drew1) | exact HB.out)⟩⟩
 case round =>
  clear H'
  try clear c1
  try clear p2
  obtain ⟨x6_1, x7_1, x8_1, rfl, rfl, HA, HK1, HO_5, HO_6, HB⟩ := hrel
  cases gk with
  | zero => exact absurd HA.out (by simp [least_Of.l0])
  | succ k1 =>
   have H := HA.out
   clear HA
   simp only [least_Of.l0] at H
   replace H := Option.bind_eq_some_iff.mp H
   obtain ⟨⟨t648, t649, t650⟩, A50, H⟩ := H
   replace H : (if t650 = true then (if x6_1.length < 8796093022208 then (least_Of.l0 k1 l0 l1 t645 (x6_1 ++ [(⟨t648, t649⟩ : S54)]) (wrap64 (t648 + 1)) (wrap64 (t649 + 1))) else (none)) else (some x6_1)) = some r := H
   have A5 := Aside0.mk A50
   clear A50
   by_cases c6 : t650 = true
   ·subst c6
    have H1 : (if x6_1.length < 8796093022208 then (least_Of.l0 k1 l0 l1 t645 (x6_1 ++ [(⟨t648, t649⟩ : S54)]) (wrap64 (t648 + 1)) (wrap64 (t649 + 1))) else (none)) = some r := by rw [if_pos rfl] at H; exact H
    clear H
    have H := H1
    clear H1
    by_cases c7 : x6_1.length < 8796093022208
    ·rw [if_pos c7] at H
     have LMc7 := Aside0.mk c7
     clear c7
     obtain ⟨y652, hy652⟩ : ∃ y_ : List (S54), y_ = (x6_1 ++ [(⟨t648, t649⟩ : S54)]) := ⟨_, rfl⟩
     replace H : (least_Of.l0 k1 l0 l1 t645 y652 (wrap64 (t648 + 1)) (wrap64 (t649 + 1))) = some r := by first | (rw [hy652]; with_reducible exact H) | (have H2_ := (Option.bind_some _ _).symm.trans H; rw [hy652]; with_reducible exact H2_) | (have H2_ := (Option.bind_some _ _).symm.trans H; with_reducible exact H2_) | with_reducible exact H | (rw [hy652]; exact H) | exact H
     have Ny652 := Aside0.mk hy652
     clear hy652
     have H' := Aside0.mk H
     clear H
     obtain ⟨Ao8, co8, eo8⟩ := Kd.S_slice HO_5.out
     subst eo8
     go_wp2_with (first | (go_at_call 133; (with_reducible refine (least_next.calls k1 _ _ t645 _ _ l0 _ _ l1 x7_1 x8_1 t648 t649 true _ ?side1 ?side2 ?side3 ?side4 ?side5 ?side6 A5.out).mono ?_); (case side1 => repeat (first | exact (Kd.S_reads' HO_5.out).2.2 | (with_reducible refine Kd.C_alloc ?_ _) | (with_reducible refine Kd.C_drewN ?_ _) | (with_reducible refine Kd.C_drew ?_))); (case side2 => exact (Kd.S_reads' HO_5.out).2.1); (case side3 => repeat (first | exact (Kd.C_below HR0.out HB.out) | (with_reducible refine Kd.C_alloc ?_ _) | (with_reducible refine Kd.C_drewN ?_ _) | (with_reducible refine Kd.C_drew ?_))); (case side4 => exact HC0.out); (case side5 => repeat (first | exact (Kd.C_below HR1.out HB.out) | (with_reducible refine Kd.C_alloc ?_ _) | (with_reducible refine Kd.C_drewN ?_ _) | (with_reducible refine Kd.C_drew ?_))); (case side6 => exact HC1.out); rintro e w9 ⟨rfl, hb⟩; have n0_ := Aside0.mk (Kd.S_below (by (with_reducible repeat (first | apply Kd.S_alloc | apply Kd.S_drewN | apply Kd.S_drew)); exact HO_5.out) hb); have n1_ := Aside0.mk (Kd.R_below (by (with_reducible repeat (first | apply Kd.R_alloc | apply Kd.R_drewN | apply Kd.R_drew)); exact HO_6.out) hb); have n2_ := Aside0.mk (below_step (by repeat (first | (with_reducible first | exact HB.out | apply below_alloc | apply pw_below_drewN | apply below_drew1) | exact HB.out)) hb); clear HO_5; clear HO_6; clear HB; have HO_5 := n0_; have HO_6 := n1_; have HB := n2_; clear n0_ n1_ n2_; (try clear hb); (try clear hb2); (try clear hk); (try clear hi)) | ((with_reducible refine gate_dst (N := 9) rfl ?_); refine box_event ?hg (N := 9) ?hd (cs := #[.int .i64 0, .int .i64 0]) (t := 54) ?hr ?_; (case hd => rfl); (case hg => rfl); (case hr => first | (go_simp; done) | (go_simp; rfl)); intro gb651 hg w10 hbox hb; have n0_ := Aside0.mk (Kd.S_below (by (with_reducible repeat (first | apply Kd.S_alloc | apply Kd.S_drewN | apply Kd.S_drew)); exact HO_5.out) hb); have n1_ := Aside0.mk (Kd.R_below (Kd.R_elderB (by (with_reducible repeat (first | apply Kd.R_alloc | apply Kd.R_drewN | apply Kd.R_drew)); exact HO_6.out) gb651 (Nat.le_of_eq hg.symm)) hb); have n2_ := Aside0.mk (below_step (by repeat (first | (with_reducible first | exact HB.out | apply below_alloc | apply pw_below_drewN | apply below_drew1) | exact HB.out)) hb); have n3_ := Aside0.mk (hbox); have n4_ := Aside0.mk ((by rw [hg]; exact (below_size (by repeat (first | (with_reducible first | exact HB.out | apply below_alloc | apply pw_below_drewN | apply below_drew1) | exact HB.out))) : w.heap.size ≤ gb651)); have n5_ := Aside0.mk ((by rw [hg]; exact (below_size (by repeat (first | (with_reducible first | exact HB.out | apply below_alloc | apply pw_below_drewN | apply below_drew1) | exact HB.out))) : w.heap.size ≤ gb651)); clear HO_5; clear HO_6; clear HB; have HO_5 := n0_; have HO_6 := n1_; have HB := n2_; have BK651 := n3_; have GW651 := n4_; have GE651 := n5_; clear n0_ n1_ n2_ n3_ n4_ n5_; (try clear hb); (try clear hbox); (try clear hg); have hcz11_0 : w10.cell? ⟨gb651, 0, none⟩ = some (.int .i64 0) := (blk_cell BK651.out 0).trans rfl; have hcz11_1 : w10.cell? ⟨gb651, 1, none⟩ = some (.int .i64 0) := (blk_cell BK651.out 1).trans rfl; have hfz11_0 := blk_frozen BK651.out 0; have hfz11_1 := blk_frozen BK651.out 1) | ((with_reducible refine gate_builtin (b := .append) (xs := #[.tmp 26, .tmp 28]) rfl ?_); at_builtin; refine Kd.R_append k54 (w0 := w) w.heap.size rfl (.tmp 26) (.tmp 28) 32 54 (.agg #[(.int .i64 0), (.int .i64 0)]) 16 rfl Tryz.underlying32 info54 rfl (by decide) (by omega) u6 x6_1 (⟨t648, t649⟩ : S54) [.int .i64 t648, .int .i64 t649] (fun k_ => k_ ≠ gb651) (fun _ => False) rfl (by first | (go_simp; done) | (go_simp; rfl)) ?aP (fun _ hk => hk.elim) ?aF ?aO ?aB ?aS ?aL ?_; (case aP => exact k54_mkM _ _ _ (⟨t648, t649⟩ : S54)); (case aB => exact (by repeat (first | (with_reducible first | exact HB.out | apply below_alloc | apply pw_below_drewN | apply below_drew1 | refine below_set ?_ GE651.out) | exact HB.out))); (case aF => exact (fun k_ hk => Kd.freshB (g := gb651) (o := .cells #[.int .i64 t648, .int .i64 t649] 54 (0, 0)) (by (with_reducible repeat (first | refine blk_drewN ?_ _ | refine blk_drew ?_ | refine blk_alloc ?_ _)); refine blk_put (cs := #[.int .i64 t648, .int .i64 0]) ?_ 1 _ rfl; (with_reducible repeat (first | refine blk_drewN ?_ _ | refine blk_drew ?_ | refine blk_alloc ?_ _)); refine blk_put (cs := #[.int .i64 0, .int .i64 0]) ?_ 0 _ rfl; (with_reducible repeat (first | refine blk_drewN ?_ _ | refine blk_drew ?_ | refine blk_alloc ?_ _)); exact BK651.out) k_ hk)); (case aO => exact (by (with_reducible repeat (first | apply Kd.R_alloc | apply Kd.R_drewN | apply Kd.R_drew)); exact Kd.R_mono (Kd.R_far (p := ⟨gb651, 1, none⟩) (Kd.R_far (p := ⟨gb651, 0, none⟩) (Kd.R_mono HO_6.out (fun k_ hk => (⟨hk, hk.2⟩ : _ ∧ k_ ≠ gb651))) (fun _ hk => hk.2) (.int .i64 t648)) (fun _ hk => hk.2) (.int .i64 t649)) (fun _ hk => hk.1.2))); (case aS => exact (below_size (by repeat (first | (with_reducible first | exact HB.out | apply below_alloc | apply pw_below_drewN | apply below_drew1 | refine below_set ?_ GE651.out) | exact HB.out)))); (case aL => have := LMc7.out; omega); intro v653 w12 ho hb hg hat; rw [← Ny652.out] at ho; have n0_ := Aside0.mk (Kd.S_over' (by (with_reducible repeat (first | apply Kd.S_alloc | apply Kd.S_drewN | apply Kd.S_drew)); exact (Kd.S_mono (Kd.S_far (p := ⟨gb651, 1, none⟩) (Kd.S_far (p := ⟨gb651, 0, none⟩) (Kd.S_types HO_5.out BK651.out (by decide)) (fun _ hk => hk.2) (.int .i64 t648)) (fun _ hk => hk.2) (.int .i64 t649)) (fun _ h_ => h_.1))) (Kd.R_typed (by (with_reducible repeat (first | apply Kd.R_alloc | apply Kd.R_drewN | apply Kd.R_drew)); exact (Kd.R_mono (Kd.R_far (p := ⟨gb651, 1, none⟩) (Kd.R_far (p := ⟨gb651, 0, none⟩) (Kd.R_mono HO_6.out (fun k_ hk => (⟨hk, hk.2⟩ : _ ∧ k_ ≠ gb651))) (fun _ hk => hk.2) (.int .i64 t648)) (fun _ hk => hk.2) (.int .i64 t649)) (fun _ h_ => h_.1)))) (by decide) hg); have n1_ := Aside0.mk (blk_grown (g := gb651) (o := .cells #[.int .i64 t648, .int .i64 t649] 54 (0, 0)) (by (with_reducible repeat (first | refine blk_drewN ?_ _ | refine blk_drew ?_ | refine blk_alloc ?_ _)); refine blk_put (cs := #[.int .i64 t648, .int .i64 0]) ?_ 1 _ rfl; (with_reducible repeat (first | refine blk_drewN ?_ _ | refine blk_drew ?_ | refine blk_alloc ?_ _)); refine blk_put (cs := #[.int .i64 0, .int .i64 0]) ?_ 0 _ rfl; (with_reducible repeat (first | refine blk_drewN ?_ _ | refine blk_drew ?_ | refine blk_alloc ?_ _)); exact BK651.out) hg (Kd.R_away HO_6.out (fun _ hk => hk.2))); have n2_ := Aside0.mk (hb); have n3_ := Aside0.mk (ho); clear HO_5; clear BK651; clear HB; clear HO_6; have HO_5 := n0_; have BK651 := n1_; have HB := n2_; have HO654 := n3_; clear n0_ n1_ n2_ n3_; (try clear ho); (try clear hb); (try clear hg); (try clear hat); have hcz13_0 : w12.cell? ⟨gb651, 0, none⟩ = some (.int .i64 t648) := (blk_cell BK651.out 0).trans rfl; have hcz13_1 : w12.cell? ⟨gb651, 1, none⟩ = some (.int .i64 t649) := (blk_cell BK651.out 1).trans rfl; have hfz13_0 := blk_frozen BK651.out 0; have hfz13_1 := blk_frozen BK651.out 1))
     repeat (go_quiet (first | (go_at_call 133; (with_reducible refine (least_next.calls k1 _ _ t645 _ _ l0 _ _ l1 x7_1 x8_1 t648 t649 true _ ?side1 ?side2 ?side3 ?side4 ?side5 ?side6 A5.out).mono ?_); (case side1 => repeat (first | exact (Kd.S_reads' HO_5.out).2.2 | (with_reducible refine Kd.C_alloc ?_ _) | (with_reducible refine Kd.C_drewN ?_ _) | (with_reducible refine Kd.C_drew ?_))); (case side2 => exact (Kd.S_reads' HO_5.out).2.1); (case side3 => repeat (first | exact (Kd.C_below HR0.out HB.out) | (with_reducible refine Kd.C_alloc ?_ _) | (with_reducible refine Kd.C_drewN ?_ _) | (with_reducible refine Kd.C_drew ?_))); (case side4 => exact HC0.out); (case side5 => repeat (first | exact (Kd.C_below HR1.out HB.out) | (with_reducible refine Kd.C_alloc ?_ _) | (with_reducible refine Kd.C_drewN ?_ _) | (with_reducible refine Kd.C_drew ?_))); (case side6 => exact HC1.out); rintro e w9 ⟨rfl, hb⟩; have n0_ := Aside0.mk (Kd.S_below (by (with_reducible repeat (first | apply Kd.S_alloc | apply Kd.S_drewN | apply Kd.S_drew)); exact HO_5.out) hb); have n1_ := Aside0.mk (Kd.R_below (by (with_reducible repeat (first | apply Kd.R_alloc | apply Kd.R_drewN | apply Kd.R_drew)); exact HO_6.out) hb); have n2_ := Aside0.mk (below_step (by repeat (first | (with_reducible first | exact HB.out | apply below_alloc | apply pw_below_drewN | apply below_drew1) | exact HB.out)) hb); clear HO_5; clear HO_6; clear HB; have HO_5 := n0_; have HO_6 := n1_; have HB := n2_; clear n0_ n1_ n2_; (try clear hb); (try clear hb2); (try clear hk); (try clear hi)) | ((with_reducible refine gate_dst (N := 9) rfl ?_); refine box_event ?hg (N := 9) ?hd (cs := #[.int .i64 0, .int .i64 0]) (t := 54) ?hr ?_; (case hd => rfl); (case hg => rfl); (case hr => first | (go_simp; done) | (go_simp; rfl)); intro gb651 hg w10 hbox hb; have n0_ := Aside0.mk (Kd.S_below (by (with_reducible repeat (first | apply Kd.S_alloc | apply Kd.S_drewN | apply Kd.S_drew)); exact HO_5.out) hb); have n1_ := Aside0.mk (Kd.R_below (Kd.R_elderB (by (with_reducible repeat (first | apply Kd.R_alloc | apply Kd.R_drewN | apply Kd.R_drew)); exact HO_6.out) gb651 (Nat.le_of_eq hg.symm)) hb); have n2_ := Aside0.mk (below_step (by repeat (first | (with_reducible first | exact HB.out | apply below_alloc | apply pw_below_drewN | apply below_drew1) | exact HB.out)) hb); have n3_ := Aside0.mk (hbox); have n4_ := Aside0.mk ((by rw [hg]; exact (below_size (by repeat (first | (with_reducible first | exact HB.out | apply below_alloc | apply pw_below_drewN | apply below_drew1) | exact HB.out))) : w.heap.size ≤ gb651)); have n5_ := Aside0.mk ((by rw [hg]; exact (below_size (by repeat (first | (with_reducible first | exact HB.out | apply below_alloc | apply pw_below_drewN | apply below_drew1) | exact HB.out))) : w.heap.size ≤ gb651)); clear HO_5; clear HO_6; clear HB; have HO_5 := n0_; have HO_6 := n1_; have HB := n2_; have BK651 := n3_; have GW651 := n4_; have GE651 := n5_; clear n0_ n1_ n2_ n3_ n4_ n5_; (try clear hb); (try clear hbox); (try clear hg); have hcz11_0 : w10.cell? ⟨gb651, 0, none⟩ = some (.int .i64 0) := (blk_cell BK651.out 0).trans rfl; have hcz11_1 : w10.cell? ⟨gb651, 1, none⟩ = some (.int .i64 0) := (blk_cell BK651.out 1).trans rfl; have hfz11_0 := blk_frozen BK651.out 0; have hfz11_1 := blk_frozen BK651.out 1) | ((with_reducible refine gate_builtin (b := .append) (xs := #[.tmp 26, .tmp 28]) rfl ?_); at_builtin; refine Kd.R_append k54 (w0 := w) w.heap.size rfl (.tmp 26) (.tmp 28) 32 54 (.agg #[(.int .i64 0), (.int .i64 0)]) 16 rfl Tryz.underlying32 info54 rfl (by decide) (by omega) u6 x6_1 (⟨t648, t649⟩ : S54) [.int .i64 t648, .int .i64 t649] (fun k_ => k_ ≠ gb651) (fun _ => False) rfl (by first | (go_simp; done) | (go_simp; rfl)) ?aP (fun _ hk => hk.elim) ?aF ?aO ?aB ?aS ?aL ?_; (case aP => exact k54_mkM _ _ _ (⟨t648, t649⟩ : S54)); (case aB => exact (by repeat (first | (with_reducible first | exact HB.out | apply below_alloc | apply pw_below_drewN | apply below_drew1 | refine below_set ?_ GE651.out) | exact HB.out))); (case aF => exact (fun k_ hk => Kd.freshB (g := gb651) (o := .cells #[.int .i64 t648, .int .i64 t649] 54 (0, 0)) (by (with_reducible repeat (first | refine blk_drewN ?_ _ | refine blk_drew ?_ | refine blk_alloc ?_ _)); refine blk_put (cs := #[.int .i64 t648, .int .i64 0]) ?_ 1 _ rfl; (with_reducible repeat (first | refine blk_drewN ?_ _ | refine blk_drew ?_ | refine blk_alloc ?_ _)); refine blk_put (cs := #[.int .i64 0, .int .i64 0]) ?_ 0 _ rfl; (with_reducible repeat (first | refine blk_drewN ?_ _ | refine blk_drew ?_ | refine blk_alloc ?_ _)); exact BK651.out) k_ hk)); (case aO => exact (by (with_reducible repeat (first | apply Kd.R_alloc | apply Kd.R_drewN | apply Kd.R_drew)); exact Kd.R_mono (Kd.R_far (p := ⟨gb651, 1, none⟩) (Kd.R_far (p := ⟨gb651, 0, none⟩) (Kd.R_mono HO_6.out (fun k_ hk => (⟨hk, hk.2⟩ : _ ∧ k_ ≠ gb651))) (fun _ hk => hk.2) (.int .i64 t648)) (fun _ hk => hk.2) (.int .i64 t649)) (fun _ hk => hk.1.2))); (case aS => exact (below_size (by repeat (first | (with_reducible first | exact HB.out | apply below_alloc | apply pw_below_drewN | apply below_drew1 | refine below_set ?_ GE651.out) | exact HB.out)))); (case aL => have := LMc7.out; omega); intro v653 w12 ho hb hg hat; rw [← Ny652.out] at ho; have n0_ := Aside0.mk (Kd.S_over' (by (with_reducible repeat (first | apply Kd.S_alloc | apply Kd.S_drewN | apply Kd.S_drew)); exact (Kd.S_mono (Kd.S_far (p := ⟨gb651, 1, none⟩) (Kd.S_far (p := ⟨gb651, 0, none⟩) (Kd.S_types HO_5.out BK651.out (by decide)) (fun _ hk => hk.2) (.int .i64 t648)) (fun _ hk => hk.2) (.int .i64 t649)) (fun _ h_ => h_.1))) (Kd.R_typed (by (with_reducible repeat (first | apply Kd.R_alloc | apply Kd.R_drewN | apply Kd.R_drew)); exact (Kd.R_mono (Kd.R_far (p := ⟨gb651, 1, none⟩) (Kd.R_far (p := ⟨gb651, 0, none⟩) (Kd.R_mono HO_6.out (fun k_ hk => (⟨hk, hk.2⟩ : _ ∧ k_ ≠ gb651))) (fun _ hk => hk.2) (.int .i64 t648)) (fun _ hk => hk.2) (.int .i64 t649)) (fun _ h_ => h_.1)))) (by decide) hg); have n1_ := Aside0.mk (blk_grown (g := gb651) (o := .cells #[.int .i64 t648, .int .i64 t649] 54 (0, 0)) (by (with_reducible repeat (first | refine blk_drewN ?_ _ | refine blk_drew ?_ | refine blk_alloc ?_ _)); refine blk_put (cs := #[.int .i64 t648, .int .i64 0]) ?_ 1 _ rfl; (with_reducible repeat (first | refine blk_drewN ?_ _ | refine blk_drew ?_ | refine blk_alloc ?_ _)); refine blk_put (cs := #[.int .i64 0, .int .i64 0]) ?_ 0 _ rfl; (with_reducible repeat (first | refine blk_drewN ?_ _ | refine blk_drew ?_ | refine blk_alloc ?_ _)); exact BK651.out) hg (Kd.R_away HO_6.out (fun _ hk => hk.2))); have n2_ := Aside0.mk (hb); have n3_ := Aside0.mk (ho); clear HO_5; clear BK651; clear HB; clear HO_6; have HO_5 := n0_; have BK651 := n1_; have HB := n2_; have HO654 := n3_; clear n0_ n1_ n2_ n3_; (try clear ho); (try clear hb); (try clear hg); (try clear hat); have hcz13_0 : w12.cell? ⟨gb651, 0, none⟩ = some (.int .i64 t648) := (blk_cell BK651.out 0).trans rfl; have hcz13_1 : w12.cell? ⟨gb651, 1, none⟩ = some (.int .i64 t649) := (blk_cell BK651.out 1).trans rfl; have hfz13_0 := blk_frozen BK651.out 0; have hfz13_1 := blk_frozen BK651.out 1)); try go_wp2_with (first | (go_at_call 133; (with_reducible refine (least_next.calls k1 _ _ t645 _ _ l0 _ _ l1 x7_1 x8_1 t648 t649 true _ ?side1 ?side2 ?side3 ?side4 ?side5 ?side6 A5.out).mono ?_); (case side1 => repeat (first | exact (Kd.S_reads' HO_5.out).2.2 | (with_reducible refine Kd.C_alloc ?_ _) | (with_reducible refine Kd.C_drewN ?_ _) | (with_reducible refine Kd.C_drew ?_))); (case side2 => exact (Kd.S_reads' HO_5.out).2.1); (case side3 => repeat (first | exact (Kd.C_below HR0.out HB.out) | (with_reducible refine Kd.C_alloc ?_ _) | (with_reducible refine Kd.C_drewN ?_ _) | (with_reducible refine Kd.C_drew ?_))); (case side4 => exact HC0.out); (case side5 => repeat (first | exact (Kd.C_below HR1.out HB.out) | (with_reducible refine Kd.C_alloc ?_ _) | (with_reducible refine Kd.C_drewN ?_ _) | (with_reducible refine Kd.C_drew ?_))); (case side6 => exact HC1.out); rintro e w9 ⟨rfl, hb⟩; have n0_ := Aside0.mk (Kd.S_below (by (with_reducible repeat (first | apply Kd.S_alloc | apply Kd.S_drewN | apply Kd.S_drew)); exact HO_5.out) hb); have n1_ := Aside0.mk (Kd.R_below (by (with_reducible repeat (first | apply Kd.R_alloc | apply Kd.R_drewN | apply Kd.R_drew)); exact HO_6.out) hb); have n2_ := Aside0.mk (below_step (by repeat (first | (with_reducible first | exact HB.out | apply below_alloc | apply pw_below_drewN | apply below_drew1) | exact HB.out)) hb); clear HO_5; clear HO_6; clear HB; have HO_5 := n0_; have HO_6 := n1_; have HB := n2_; clear n0_ n1_ n2_; (try clear hb); (try clear hb2); (try clear hk); (try clear hi)) | ((with_reducible refine gate_dst (N := 9) rfl ?_); refine box_event ?hg (N := 9) ?hd (cs := #[.int .i64 0, .int .i64 0]) (t := 54) ?hr ?_; (case hd => rfl); (case hg => rfl); (case hr => first | (go_simp; done) | (go_simp; rfl)); intro gb651 hg w10 hbox hb; have n0_ := Aside0.mk (Kd.S_below (by (with_reducible repeat (first | apply Kd.S_alloc | apply Kd.S_drewN | apply Kd.S_drew)); exact HO_5.out) hb); have n1_ := Aside0.mk (Kd.R_below (Kd.R_elderB (by (with_reducible repeat (first | apply Kd.R_alloc | apply Kd.R_drewN | apply Kd.R_drew)); exact HO_6.out) gb651 (Nat.le_of_eq hg.symm)) hb); have n2_ := Aside0.mk (below_step (by repeat (first | (with_reducible first | exact HB.out | apply below_alloc | apply pw_below_drewN | apply below_drew1) | exact HB.out)) hb); have n3_ := Aside0.mk (hbox); have n4_ := Aside0.mk ((by rw [hg]; exact (below_size (by repeat (first | (with_reducible first | exact HB.out | apply below_alloc | apply pw_below_drewN | apply below_drew1) | exact HB.out))) : w.heap.size ≤ gb651)); have n5_ := Aside0.mk ((by rw [hg]; exact (below_size (by repeat (first | (with_reducible first | exact HB.out | apply below_alloc | apply pw_below_drewN | apply below_drew1) | exact HB.out))) : w.heap.size ≤ gb651)); clear HO_5; clear HO_6; clear HB; have HO_5 := n0_; have HO_6 := n1_; have HB := n2_; have BK651 := n3_; have GW651 := n4_; have GE651 := n5_; clear n0_ n1_ n2_ n3_ n4_ n5_; (try clear hb); (try clear hbox); (try clear hg); have hcz11_0 : w10.cell? ⟨gb651, 0, none⟩ = some (.int .i64 0) := (blk_cell BK651.out 0).trans rfl; have hcz11_1 : w10.cell? ⟨gb651, 1, none⟩ = some (.int .i64 0) := (blk_cell BK651.out 1).trans rfl; have hfz11_0 := blk_frozen BK651.out 0; have hfz11_1 := blk_frozen BK651.out 1) | ((with_reducible refine gate_builtin (b := .append) (xs := #[.tmp 26, .tmp 28]) rfl ?_); at_builtin; refine Kd.R_append k54 (w0 := w) w.heap.size rfl (.tmp 26) (.tmp 28) 32 54 (.agg #[(.int .i64 0), (.int .i64 0)]) 16 rfl Tryz.underlying32 info54 rfl (by decide) (by omega) u6 x6_1 (⟨t648, t649⟩ : S54) [.int .i64 t648, .int .i64 t649] (fun k_ => k_ ≠ gb651) (fun _ => False) rfl (by first | (go_simp; done) | (go_simp; rfl)) ?aP (fun _ hk => hk.elim) ?aF ?aO ?aB ?aS ?aL ?_; (case aP => exact k54_mkM _ _ _ (⟨t648, t649⟩ : S54)); (case aB => exact (by repeat (first | (with_reducible first | exact HB.out | apply below_alloc | apply pw_below_drewN | apply below_drew1 | refine below_set ?_ GE651.out) | exact HB.out))); (case aF => exact (fun k_ hk => Kd.freshB (g := gb651) (o := .cells #[.int .i64 t648, .int .i64 t649] 54 (0, 0)) (by (with_reducible repeat (first | refine blk_drewN ?_ _ | refine blk_drew ?_ | refine blk_alloc ?_ _)); refine blk_put (cs := #[.int .i64 t648, .int .i64 0]) ?_ 1 _ rfl; (with_reducible repeat (first | refine blk_drewN ?_ _ | refine blk_drew ?_ | refine blk_alloc ?_ _)); refine blk_put (cs := #[.int .i64 0, .int .i64 0]) ?_ 0 _ rfl; (with_reducible repeat (first | refine blk_drewN ?_ _ | refine blk_drew ?_ | refine blk_alloc ?_ _)); exact BK651.out) k_ hk)); (case aO => exact (by (with_reducible repeat (first | apply Kd.R_alloc | apply Kd.R_drewN | apply Kd.R_drew)); exact Kd.R_mono (Kd.R_far (p := ⟨gb651, 1, none⟩) (Kd.R_far (p := ⟨gb651, 0, none⟩) (Kd.R_mono HO_6.out (fun k_ hk => (⟨hk, hk.2⟩ : _ ∧ k_ ≠ gb651))) (fun _ hk => hk.2) (.int .i64 t648)) (fun _ hk => hk.2) (.int .i64 t649)) (fun _ hk => hk.1.2))); (case aS => exact (below_size (by repeat (first | (with_reducible first | exact HB.out | apply below_alloc | apply pw_below_drewN | apply below_drew1 | refine below_set ?_ GE651.out) | exact HB.out)))); (case aL => have := LMc7.out; omega); intro v653 w12 ho hb hg hat; rw [← Ny652.out] at ho; have n0_ := Aside0.mk (Kd.S_over' (by (with_reducible repeat (first | apply Kd.S_alloc | apply Kd.S_drewN | apply Kd.S_drew)); exact (Kd.S_mono (Kd.S_far (p := ⟨gb651, 1, none⟩) (Kd.S_far (p := ⟨gb651, 0, none⟩) (Kd.S_types HO_5.out BK651.out (by decide)) (fun _ hk => hk.2) (.int .i64 t648)) (fun _ hk => hk.2) (.int .i64 t649)) (fun _ h_ => h_.1))) (Kd.R_typed (by (with_reducible repeat (first | apply Kd.R_alloc | apply Kd.R_drewN | apply Kd.R_drew)); exact (Kd.R_mono (Kd.R_far (p := ⟨gb651, 1, none⟩) (Kd.R_far (p := ⟨gb651, 0, none⟩) (Kd.R_mono HO_6.out (fun k_ hk => (⟨hk, hk.2⟩ : _ ∧ k_ ≠ gb651))) (fun _ hk => hk.2) (.int .i64 t648)) (fun _ hk => hk.2) (.int .i64 t649)) (fun _ h_ => h_.1)))) (by decide) hg); have n1_ := Aside0.mk (blk_grown (g := gb651) (o := .cells #[.int .i64 t648, .int .i64 t649] 54 (0, 0)) (by (with_reducible repeat (first | refine blk_drewN ?_ _ | refine blk_drew ?_ | refine blk_alloc ?_ _)); refine blk_put (cs := #[.int .i64 t648, .int .i64 0]) ?_ 1 _ rfl; (with_reducible repeat (first | refine blk_drewN ?_ _ | refine blk_drew ?_ | refine blk_alloc ?_ _)); refine blk_put (cs := #[.int .i64 0, .int .i64 0]) ?_ 0 _ rfl; (with_reducible repeat (first | refine blk_drewN ?_ _ | refine blk_drew ?_ | refine blk_alloc ?_ _)); exact BK651.out) hg (Kd.R_away HO_6.out (fun _ hk => hk.2))); have n2_ := Aside0.mk (hb); have n3_ := Aside0.mk (ho); clear HO_5; clear BK651; clear HB; clear HO_6; have HO_5 := n0_; have BK651 := n1_; have HB := n2_; have HO654 := n3_; clear n0_ n1_ n2_ n3_; (try clear ho); (try clear hb); (try clear hg); (try clear hat); have hcz13_0 : w12.cell? ⟨gb651, 0, none⟩ = some (.int .i64 t648) := (blk_cell BK651.out 0).trans rfl; have hcz13_1 : w12.cell? ⟨gb651, 1, none⟩ = some (.int .i64 t649) := (blk_cell BK651.out 1).trans rfl; have hfz13_0 := blk_frozen BK651.out 0; have hfz13_1 := blk_frozen BK651.out 1)))
     go_roundg k1
     case measure => have := HK1.out; omega
     case rel => exact ⟨(y652), (wrap64 (t648 + 1)), (wrap64 (t649 + 1)), (by first | rfl | (simp; done) | (simp [*]; done)), (by first | rfl | (simp; done) | (simp [*]; done)), H', ⟨by have := HK1.out; omega⟩, ⟨by (with_reducible repeat (first | apply Kd.S_alloc | apply Kd.S_drewN | apply Kd.S_drew)); exact HO_5.out⟩, ⟨by (with_reducible repeat (first | apply Kd.R_alloc | apply Kd.R_drewN | apply Kd.R_drew)); exact Kd.R_mono HO654.out (fun _ hk => trivial)⟩, ⟨by repeat (first | (with_reducible first | exact HB.out | apply below_alloc | apply pw_below_drewN | apply below_drew1 | refine below_set ?_ GE651.out) | exact HB.out)⟩⟩
    ·rw [if_neg c7] at H
     exact absurd H (by simp)
   ·replace c6 := Bool.eq_false_iff.mpr c6
    subst c6
    have H1 : (some x6_1) = some r := by rw [if_neg (show ¬ (false = true) by decide)] at H; exact H
    clear H
    have H := H1
    clear H1
    obtain rfl := Option.some.inj H
    obtain ⟨Ao14, co14, eo14⟩ := Kd.S_slice HO_5.out
    subst eo14
    go_wp2_with (first | (go_at_call 133; (with_reducible refine (least_next.calls k1 _ _ t645 _ _ l0 _ _ l1 x7_1 x8_1 t648 t649 false _ ?side1 ?side2 ?side3 ?side4 ?side5 ?side6 A5.out).mono ?_); (case side1 => repeat (first | exact (Kd.S_reads' HO_5.out).2.2 | (with_reducible refine Kd.C_alloc ?_ _) | (with_reducible refine Kd.C_drewN ?_ _) | (with_reducible refine Kd.C_drew ?_))); (case side2 => exact (Kd.S_reads' HO_5.out).2.1); (case side3 => repeat (first | exact (Kd.C_below HR0.out HB.out) | (with_reducible refine Kd.C_alloc ?_ _) | (with_reducible refine Kd.C_drewN ?_ _) | (with_reducible refine Kd.C_drew ?_))); (case side4 => exact HC0.out); (case side5 => repeat (first | exact (Kd.C_below HR1.out HB.out) | (with_reducible refine Kd.C_alloc ?_ _) | (with_reducible refine Kd.C_drewN ?_ _) | (with_reducible refine Kd.C_drew ?_))); (case side6 => exact HC1.out); rintro e w15 ⟨rfl, hb⟩; have n0_ := Aside0.mk (Kd.S_below (by (with_reducible repeat (first | apply Kd.S_alloc | apply Kd.S_drewN | apply Kd.S_drew)); exact HO_5.out) hb); have n1_ := Aside0.mk (Kd.R_below (by (with_reducible repeat (first | apply Kd.R_alloc | apply Kd.R_drewN | apply Kd.R_drew)); exact HO_6.out) hb); have n2_ := Aside0.mk (below_step (by repeat (first | (with_reducible first | exact HB.out | apply below_alloc | apply pw_below_drewN | apply below_drew1) | exact HB.out)) hb); clear HO_5; clear HO_6; clear HB; have HO_5 := n0_; have HO_6 := n1_; have HB := n2_; clear n0_ n1_ n2_; (try clear hb); (try clear hb2); (try clear hk); (try clear hi)) | ((with_reducible refine gate_dst (N := 9) rfl ?_); refine box_event ?hg (N := 9) ?hd (cs := #[.int .i64 0, .int .i64 0]) (t := 54) ?hr ?_; (case hd => rfl); (case hg => rfl); (case hr => first | (go_simp; done) | (go_simp; rfl)); intro gb651 hg w16 hbox hb; have n0_ := Aside0.mk (Kd.S_below (by (with_reducible repeat (first | apply Kd.S_alloc | apply Kd.S_drewN | apply Kd.S_drew)); exact HO_5.out) hb); have n1_ := Aside0.mk (Kd.R_below (Kd.R_elderB (by (with_reducible repeat (first | apply Kd.R_alloc | apply Kd.R_drewN | apply Kd.R_drew)); exact HO_6.out) gb651 (Nat.le_of_eq hg.symm)) hb); have n2_ := Aside0.mk (below_step (by repeat (first | (with_reducible first | exact HB.out | apply below_alloc | apply pw_below_drewN | apply below_drew1) | exact HB.out)) hb); have n3_ := Aside0.mk (hbox); have n4_ := Aside0.mk ((by rw [hg]; exact (below_size (by repeat (first | (with_reducible first | exact HB.out | apply below_alloc | apply pw_below_drewN | apply below_drew1) | exact HB.out))) : w.heap.size ≤ gb651)); have n5_ := Aside0.mk ((by rw [hg]; exact (below_size (by repeat (first | (with_reducible first | exact HB.out | apply below_alloc | apply pw_below_drewN | apply below_drew1) | exact HB.out))) : w.heap.size ≤ gb651)); clear HO_5; clear HO_6; clear HB; have HO_5 := n0_; have HO_6 := n1_; have HB := n2_; have BK651 := n3_; have GW651 := n4_; have GE651 := n5_; clear n0_ n1_ n2_ n3_ n4_ n5_; (try clear hb); (try clear hbox); (try clear hg); have hcz17_0 : w16.cell? ⟨gb651, 0, none⟩ = some (.int .i64 0) := (blk_cell BK651.out 0).trans rfl; have hcz17_1 : w16.cell? ⟨gb651, 1, none⟩ = some (.int .i64 0) := (blk_cell BK651.out 1).trans rfl; have hfz17_0 := blk_frozen BK651.out 0; have hfz17_1 := blk_frozen BK651.out 1))
    repeat (go_quiet (first | (go_at_call 133; (with_reducible refine (least_next.calls k1 _ _ t645 _ _ l0 _ _ l1 x7_1 x8_1 t648 t649 false _ ?side1 ?side2 ?side3 ?side4 ?side5 ?side6 A5.out).mono ?_); (case side1 => repeat (first | exact (Kd.S_reads' HO_5.out).2.2 | (with_reducible refine Kd.C_alloc ?_ _) | (with_reducible refine Kd.C_drewN ?_ _) | (with_reducible refine Kd.C_drew ?_))); (case side2 => exact (Kd.S_reads' HO_5.out).2.1); (case side3 => repeat (first | exact (Kd.C_below HR0.out HB.out) | (with_reducible refine Kd.C_alloc ?_ _) | (with_reducible refine Kd.C_drewN ?_ _) | (with_reducible refine Kd.C_drew ?_))); (case side4 => exact HC0.out); (case side5 => repeat (first | exact (Kd.C_below HR1.out HB.out) | (with_reducible refine Kd.C_alloc ?_ _) | (with_reducible refine Kd.C_drewN ?_ _) | (with_reducible refine Kd.C_drew ?_))); (case side6 => exact HC1.out); rintro e w15 ⟨rfl, hb⟩; have n0_ := Aside0.mk (Kd.S_below (by (with_reducible repeat (first | apply Kd.S_alloc | apply Kd.S_drewN | apply Kd.S_drew)); exact HO_5.out) hb); have n1_ := Aside0.mk (Kd.R_below (by (with_reducible repeat (first | apply Kd.R_alloc | apply Kd.R_drewN | apply Kd.R_drew)); exact HO_6.out) hb); have n2_ := Aside0.mk (below_step (by repeat (first | (with_reducible first | exact HB.out | apply below_alloc | apply pw_below_drewN | apply below_drew1) | exact HB.out)) hb); clear HO_5; clear HO_6; clear HB; have HO_5 := n0_; have HO_6 := n1_; have HB := n2_; clear n0_ n1_ n2_; (try clear hb); (try clear hb2); (try clear hk); (try clear hi)) | ((with_reducible refine gate_dst (N := 9) rfl ?_); refine box_event ?hg (N := 9) ?hd (cs := #[.int .i64 0, .int .i64 0]) (t := 54) ?hr ?_; (case hd => rfl); (case hg => rfl); (case hr => first | (go_simp; done) | (go_simp; rfl)); intro gb651 hg w16 hbox hb; have n0_ := Aside0.mk (Kd.S_below (by (with_reducible repeat (first | apply Kd.S_alloc | apply Kd.S_drewN | apply Kd.S_drew)); exact HO_5.out) hb); have n1_ := Aside0.mk (Kd.R_below (Kd.R_elderB (by (with_reducible repeat (first | apply Kd.R_alloc | apply Kd.R_drewN | apply Kd.R_drew)); exact HO_6.out) gb651 (Nat.le_of_eq hg.symm)) hb); have n2_ := Aside0.mk (below_step (by repeat (first | (with_reducible first | exact HB.out | apply below_alloc | apply pw_below_drewN | apply below_drew1) | exact HB.out)) hb); have n3_ := Aside0.mk (hbox); have n4_ := Aside0.mk ((by rw [hg]; exact (below_size (by repeat (first | (with_reducible first | exact HB.out | apply below_alloc | apply pw_below_drewN | apply below_drew1) | exact HB.out))) : w.heap.size ≤ gb651)); have n5_ := Aside0.mk ((by rw [hg]; exact (below_size (by repeat (first | (with_reducible first | exact HB.out | apply below_alloc | apply pw_below_drewN | apply below_drew1) | exact HB.out))) : w.heap.size ≤ gb651)); clear HO_5; clear HO_6; clear HB; have HO_5 := n0_; have HO_6 := n1_; have HB := n2_; have BK651 := n3_; have GW651 := n4_; have GE651 := n5_; clear n0_ n1_ n2_ n3_ n4_ n5_; (try clear hb); (try clear hbox); (try clear hg); have hcz17_0 : w16.cell? ⟨gb651, 0, none⟩ = some (.int .i64 0) := (blk_cell BK651.out 0).trans rfl; have hcz17_1 : w16.cell? ⟨gb651, 1, none⟩ = some (.int .i64 0) := (blk_cell BK651.out 1).trans rfl; have hfz17_0 := blk_frozen BK651.out 0; have hfz17_1 := blk_frozen BK651.out 1)); try go_wp2_with (first | (go_at_call 133; (with_reducible refine (least_next.calls k1 _ _ t645 _ _ l0 _ _ l1 x7_1 x8_1 t648 t649 false _ ?side1 ?side2 ?side3 ?side4 ?side5 ?side6 A5.out).mono ?_); (case side1 => repeat (first | exact (Kd.S_reads' HO_5.out).2.2 | (with_reducible refine Kd.C_alloc ?_ _) | (with_reducible refine Kd.C_drewN ?_ _) | (with_reducible refine Kd.C_drew ?_))); (case side2 => exact (Kd.S_reads' HO_5.out).2.1); (case side3 => repeat (first | exact (Kd.C_below HR0.out HB.out) | (with_reducible refine Kd.C_alloc ?_ _) | (with_reducible refine Kd.C_drewN ?_ _) | (with_reducible refine Kd.C_drew ?_))); (case side4 => exact HC0.out); (case side5 => repeat (first | exact (Kd.C_below HR1.out HB.out) | (with_reducible refine Kd.C_alloc ?_ _) | (with_reducible refine Kd.C_drewN ?_ _) | (with_reducible refine Kd.C_drew ?_))); (case side6 => exact HC1.out); rintro e w15 ⟨rfl, hb⟩; have n0_ := Aside0.mk (Kd.S_below (by (with_reducible repeat (first | apply Kd.S_alloc | apply Kd.S_drewN | apply Kd.S_drew)); exact HO_5.out) hb); have n1_ := Aside0.mk (Kd.R_below (by (with_reducible repeat (first | apply Kd.R_alloc | apply Kd.R_drewN | apply Kd.R_drew)); exact HO_6.out) hb); have n2_ := Aside0.mk (below_step (by repeat (first | (with_reducible first | exact HB.out | apply below_alloc | apply pw_below_drewN | apply below_drew1) | exact HB.out)) hb); clear HO_5; clear HO_6; clear HB; have HO_5 := n0_; have HO_6 := n1_; have HB := n2_; clear n0_ n1_ n2_; (try clear hb); (try clear hb2); (try clear hk); (try clear hi)) | ((with_reducible refine gate_dst (N := 9) rfl ?_); refine box_event ?hg (N := 9) ?hd (cs := #[.int .i64 0, .int .i64 0]) (t := 54) ?hr ?_; (case hd => rfl); (case hg => rfl); (case hr => first | (go_simp; done) | (go_simp; rfl)); intro gb651 hg w16 hbox hb; have n0_ := Aside0.mk (Kd.S_below (by (with_reducible repeat (first | apply Kd.S_alloc | apply Kd.S_drewN | apply Kd.S_drew)); exact HO_5.out) hb); have n1_ := Aside0.mk (Kd.R_below (Kd.R_elderB (by (with_reducible repeat (first | apply Kd.R_alloc | apply Kd.R_drewN | apply Kd.R_drew)); exact HO_6.out) gb651 (Nat.le_of_eq hg.symm)) hb); have n2_ := Aside0.mk (below_step (by repeat (first | (with_reducible first | exact HB.out | apply below_alloc | apply pw_below_drewN | apply below_drew1) | exact HB.out)) hb); have n3_ := Aside0.mk (hbox); have n4_ := Aside0.mk ((by rw [hg]; exact (below_size (by repeat (first | (with_reducible first | exact HB.out | apply below_alloc | apply pw_below_drewN | apply below_drew1) | exact HB.out))) : w.heap.size ≤ gb651)); have n5_ := Aside0.mk ((by rw [hg]; exact (below_size (by repeat (first | (with_reducible first | exact HB.out | apply below_alloc | apply pw_below_drewN | apply below_drew1) | exact HB.out))) : w.heap.size ≤ gb651)); clear HO_5; clear HO_6; clear HB; have HO_5 := n0_; have HO_6 := n1_; have HB := n2_; have BK651 := n3_; have GW651 := n4_; have GE651 := n5_; clear n0_ n1_ n2_ n3_ n4_ n5_; (try clear hb); (try clear hbox); (try clear hg); have hcz17_0 : w16.cell? ⟨gb651, 0, none⟩ = some (.int .i64 0) := (blk_cell BK651.out 0).trans rfl; have hcz17_1 : w16.cell? ⟨gb651, 1, none⟩ = some (.int .i64 0) := (blk_cell BK651.out 1).trans rfl; have hfz17_0 := blk_frozen BK651.out 0; have hfz17_1 := blk_frozen BK651.out 1)))
    go_ret
    exact ⟨_, by first | rfl | (simp [errW_none, errW_some] <;> rfl) | (simp [*, errW_none, errW_some] <;> rfl), by (with_reducible repeat (first | apply Kd.R_alloc | apply Kd.R_drewN | apply Kd.R_drew)); exact Kd.R_mono (Kd.R_far (p := ⟨gb651, 1, none⟩) (Kd.R_far (p := ⟨gb651, 0, none⟩) (Kd.R_mono HO_6.out (fun k_ hk => (⟨hk, hk.2⟩ : _ ∧ k_ ≠ gb651))) (fun _ hk => hk.2) (.int .i64 t648)) (fun _ hk => hk.2) (.int .i64 t649)) (fun _ hk => trivial), by repeat (first | (with_reducible first | exact HB.out | apply below_alloc | apply pw_below_drewN | apply below_drew1 | refine below_set ?_ GE651.out) | exact HB.out)⟩
end Go.Proofs.YtdiojfaenfggkaaGreat.PTopNear
