/- What the given program's functions come to, each a Lean function and the walk that shows it: no condition beside those that each theorem names. -/
import Derived.Test.YteijoilcffhomaaPOnpFarx0
namespace Go.Proofs.Yteijoilcffhomaa.POnpFar
open Go.RowKit Go.Proofs.YteijoilcffhomaaW.PrintWords Go.Proofs.YteijoilcffhomaaW.PrintLast Go.Proofs.YteijoilcffhomaaW.PrintMore
attribute [local go_sem] max2_int min2_int max_two min_two max_three min_three max_four min_four   -- for this text's walks alone
set_option linter.unusedVariables false
set_option linter.unusedSimpArgs false

/-! ### onp_order: function 22 -/
def onp_order.f (l0 : List Int) (l1 : List Int) : Option (List Int × List Int × Bool) := if (l0.length : Int) > (l1.length : Int) then (some (l1, l0, true)) else (some (l0, l1, false))
set_option maxHeartbeats 8000000 in
set_option maxRecDepth 100000 in
theorem onp_order.calls (P0_ : Nat → Prop) (u9000_ : Value) (l0 : List Int) (P1_ : Nat → Prop) (u9001_ : Value) (l1 : List Int) (r1 : List Int) (r2 : List Int) (r3 : Bool) (w0 w : World) (hB : Below w0.heap.size w0 w) (ho0 : Kd.R (Kd.int .i64) 3 w w0.heap.size P0_ u9000_ l0) (hp0_1 : ∀ k_, P0_ k_ → ¬ P1_ k_) (ho1 : Kd.R (Kd.int .i64) 3 w w0.heap.size P1_ u9001_ l1) (hp1_0 : ∀ k_, P1_ k_ → ¬ P0_ k_) (h : onp_order.f l0 l1 = some (r1, r2, r3)) :
    Calls Try.prog 22 #[u9000_, u9001_] w fun e w' => ∃ v0_ v1_ : Value, e = .returned (.tuple #[v0_, v1_, .bool r3]) ∧ Kd.R (Kd.int .i64) 3 w' w0.heap.size (fun k_ => ((P0_ k_ ∨ P1_ k_) ∨ w.heap.size ≤ k_) ∧ some k_ ≠ (v1_ : Value).ownBlock) v0_ r1 ∧ Kd.R (Kd.int .i64) 3 w' w0.heap.size (fun k_ => ((P0_ k_ ∨ P1_ k_) ∨ w.heap.size ≤ k_) ∧ some k_ ≠ (v0_ : Value).ownBlock) v1_ r2 ∧ Below w0.heap.size w0 w' ∧ Kept w w' (fun k_ => P0_ k_ ∨ P1_ k_) := by
  have HO0 := Aside0.mk (show Kd.R (Kd.int .i64) 3 w w0.heap.size (fun k_ => ((P0_ k_ ∨ P1_ k_) ∨ w.heap.size ≤ k_) ∧ some k_ ≠ (u9001_ : Value).ownBlock) u9000_ l0 from Kd.R_mono ho0 (fun k_ hk => ⟨(.inl (.inl hk)), fun e_ => hp0_1 k_ hk (ho1.1 k_ e_.symm)⟩))
  have HO1 := Aside0.mk (show Kd.R (Kd.int .i64) 3 w w0.heap.size (fun k_ => ((P0_ k_ ∨ P1_ k_) ∨ w.heap.size ≤ k_) ∧ some k_ ≠ (u9000_ : Value).ownBlock) u9001_ l1 from Kd.R_mono ho1 (fun k_ hk => ⟨(.inl (.inr hk)), fun e_ => hp1_0 k_ hk (ho0.1 k_ e_.symm)⟩))
  have HK := Aside0.mk (Kept.refl w (fun k_ => P0_ k_ ∨ P1_ k_))
  have HW0 := Aside0.mk hB.size
  have HB := Aside0.mk hB
  clear hB
  have H : (if (l0.length : Int) > (l1.length : Int) then (some (l1, l0, true)) else (some (l0, l1, false))) = some (r1, r2, r3) := h
  clear h
  by_cases c3 : (l0.length : Int) > (l1.length : Int)
  · rw [if_pos c3] at H
    have c3b0 : decide ((l1.length : Int) < (l0.length : Int)) = true := decide_eq_true c3
    have c3b1 : decide (l1.length < l0.length) = true := decide_eq_true (Int.ofNat_lt.mp c3)
    clear c3
    simp only [Option.some.injEq, Prod.mk.injEq] at H
    obtain ⟨rfl, rfl, rfl⟩ := H
    obtain ⟨Ao4, co4, eo4⟩ := Kd.R_slice HO0.out
    subst eo4
    obtain ⟨Ao5, co5, eo5⟩ := Kd.R_slice HO1.out
    subst eo5
    go_enter Try.func22, Try.ntmps22
    go_wp2
    go_ret3
    exact ⟨_, _, by first | rfl | (simp [errW_none, errW_some] <;> rfl) | (simp [*, errW_none, errW_some] <;> rfl), by (with_reducible repeat (first | apply Kd.R_alloc | apply Kd.R_drewN | apply Kd.R_drew)); exact HO1.out, by (with_reducible repeat (first | apply Kd.R_alloc | apply Kd.R_drewN | apply Kd.R_drew)); exact HO0.out, by repeat (first | (with_reducible first | exact HB.out | apply below_alloc | apply pw_below_drewN | apply below_drew1) | exact HB.out), by repeat (first | (with_reducible first | exact HK.out | apply Kept.alloc | apply Kept.drewN | apply Kept.drew) | exact HK.out)⟩
  · rw [if_neg c3] at H
    have c3b0 : decide ((l1.length : Int) < (l0.length : Int)) = false := decide_eq_false c3
    have c3b1 : decide (l1.length < l0.length) = false := decide_eq_false (fun h => c3 (Int.ofNat_lt.mpr h))
    clear c3
    simp only [Option.some.injEq, Prod.mk.injEq] at H
    obtain ⟨rfl, rfl, rfl⟩ := H
    obtain ⟨Ao6, co6, eo6⟩ := Kd.R_slice HO0.out
    subst eo6
    obtain ⟨Ao7, co7, eo7⟩ := Kd.R_slice HO1.out
    subst eo7
    go_enter Try.func22, Try.ntmps22
    go_wp2
    go_ret3
    exact ⟨_, _, by first | rfl | (simp [errW_none, errW_some] <;> rfl) | (simp [*, errW_none, errW_some] <;> rfl), by (with_reducible repeat (first | apply Kd.R_alloc | apply Kd.R_drewN | apply Kd.R_drew)); exact HO0.out, by (with_reducible repeat (first | apply Kd.R_alloc | apply Kd.R_drewN | apply Kd.R_drew)); exact HO1.out, by repeat (first | (with_reducible first | exact HB.out | apply below_alloc | apply pw_below_drewN | apply below_drew1) | exact HB.out), by repeat (first | (with_reducible first | exact HK.out | apply Kept.alloc | apply Kept.drewN | apply Kept.drew) | exact HK.out)⟩

/-! ### of onp, by hand: At -/
/-- How far a diagonal comes, and the runs on the way: as it lies in memory. -/
def rc (x : Int × Option Addr) : Value := .agg #[.int .i64 x.1, .pointer x.2]
def no : Int × Option Addr := (-1, none)
theorem onp_nowhere.calls (w : World) : Calls Try.prog 30 #[] w fun e w' => e = .returned (.agg #[.int .i64 (-1), .pointer none]) ∧ Below w.heap.size w w' := by
  have HB := Aside0.mk (Below.refl w.heap.size w)
  have hu49 := Try.underlying49
  go_enter Try.func30, Try.ntmps30
  go_wp2_with (first
    | ((with_reducible refine gate_dst (N := 0) rfl ?_); refine box_event ?hg (N := 0) ?hd (cs := #[.int .i64 0, .pointer none]) (t := 49) ?hr ?_; (case hd => rfl); (case hg => rfl); (case hr => first | (go_simp; done) | (go_simp; rfl)); intro gb hg w8 hbox hb; have n0_ := Aside0.mk (below_step HB.out hb); have BK := Aside0.mk hbox; have HBG := Aside0.mk (show w.heap.size ≤ gb by rw [hg]; exact HB.out.size); clear HB hb hbox hg; have HB := n0_; clear n0_; have hcz0 := (blk_cell BK.out 0).trans rfl; have hcz1 := (blk_cell BK.out 1).trans rfl; have hfz0 := blk_frozen BK.out 0; have hfz1 := blk_frozen BK.out 1))
  have hK := blk_put (cs' := #[.int .i64 (-1), .pointer none]) (blk_put (cs' := #[.int .i64 (-1), .pointer none]) BK.out 0 (.int .i64 (-1)) rfl) 1 (.pointer none) rfl
  exact ⟨rfl, _, results_single rfl (.cell gb 49 _ (0, 0) _ rfl hK hu49 rfl (by kernel_rfl) .nil), rfl, below_set (below_set HB.out HBG.out) HBG.out⟩
theorem alloc_size (w : World) (o : Obj) : (w.alloc o).heap.size = w.heap.size + 1 := by
  show (w.heap.push o).size = _
  exact Array.size_push _
/-- A row of reaches, as it is read. -/
def Reads (w : World) (A : Option Addr) (n : Nat) (rows : Nat → Int × Option Addr) : Prop := n ≤ 9223372036854775807 ∧ ∀ i, i < n → ∃ ad, A = some ad ∧ w.cell? (ad.add (i * 2)) = some (.int .i64 (rows i).1) ∧ w.cell? ⟨(ad.add (i * 2)).block, (ad.add (i * 2)).off + 1, none⟩ = some (.pointer (rows i).2)
def atR (first : Int) (n : Nat) (rows : Nat → Int × Option Addr) (k : Int) : Int × Option Addr := if k < first then no else if first + n ≤ k then no else rows (k - first).toNat
set_option maxHeartbeats 4000000 in
theorem onp_at.calls (first : Int) (A : Option Addr) (n c : Nat) (rows : Nat → Int × Option Addr) (k : Int) (w : World) (hr : Reads w A n rows) (hn : n ≤ 1000000000) (h1 : -1000000000 ≤ first) (h2 : first ≤ 1000000000) (h3 : -1000000000 ≤ k) (h4 : k ≤ 1000000000) :
    Calls Try.prog 29 #[.agg #[.int .i64 first, .slice A n c], .int .i64 k] w fun e w' => e = .returned (rc (atR first n rows k)) ∧ Below w.heap.size w w' := by
  have HB := Aside0.mk (Below.refl w.heap.size w)
  have hu49 := Try.underlying49
  have hu46 := Try.underlying46
  have HR := Aside0.mk hr
  clear hr
  have hB1 := Aside0.mk (below_alloc (below_alloc (Below.refl w.heap.size w) (.cells #[.int .i64 first, .slice A n c] 46)) (.cells #[.int .i64 0, .pointer none] 49))
  have hK1 := Aside0.mk (blk_below (blk_new w (.cells #[.int .i64 first, .slice A n c] 46)) (below_alloc (Below.refl _ _) (.cells #[.int .i64 0, .pointer none] 49)))
  have hK2 := Aside0.mk (show ((w.alloc (.cells #[.int .i64 first, .slice A n c] 46)).alloc (.cells #[.int .i64 0, .pointer none] 49)).heap[w.heap.size + 1]? = some (.cells #[.int .i64 0, .pointer none] 49 (0, 0)) by have := blk_new (w.alloc (.cells #[.int .i64 first, .slice A n c] 46)) (.cells #[.int .i64 0, .pointer none] 49); rwa [alloc_size] at this)
  go_enter Try.func29, Try.ntmps29
  go_upto_region 1 with fail
  generalize (w.alloc (.cells #[.int .i64 first, .slice A n c] 46)).alloc (.cells #[.int .i64 0, .pointer none] 49) = wx at hB1 hK1 hK2 ⊢
  generalize hg1 : w.heap.size + 1 = g1 at hK2 ⊢
  generalize hg0 : w.heap.size = g0 at hK1 ⊢
  have hG1 := Aside0.mk (show w.heap.size ≤ g1 by omega)
  have hG0 := Aside0.mk (show w.heap.size ≤ g0 by omega)
  clear hg1 hg0
  have hcz0 : wx.cell? ⟨g0, 0, none⟩ = some (.int .i64 first) := (blk_cell hK1.out 0).trans rfl
  have hcz1 : wx.cell? ⟨g0, 1, none⟩ = some (.slice A n c) := (blk_cell hK1.out 1).trans rfl
  have hdz0 := (blk_cell hK2.out 0).trans rfl
  have hdz1 := (blk_cell hK2.out 1).trans rfl
  have hfz0 := blk_frozen hK2.out 0
  have hfz1 := blk_frozen hK2.out 1
  by_cases c1 : k < first
  · have d1 : decide (k < first) = true := decide_eq_true c1
    have he : atR first n rows k = no := by unfold atR; rw [if_pos c1]
    have HE := Aside0.mk he
    clear he
    go_wp2_with (first | (go_at_call 30; ((with_reducible refine (onp_nowhere.calls _).mono ?_); rintro e w2 ⟨rfl, hb⟩; have n0_ := Aside0.mk (below_step hB1.out hb); have n1_ := Aside0.mk (blk_below hK2.out hb); (try clear hB1); (try clear hK2); (try clear hb); (try clear hdz0); (try clear hdz1); (try clear hfz0); (try clear hfz1); have hB1 := n0_; have hK2 := n1_; clear n0_ n1_; have hdz0 := (blk_cell hK2.out 0).trans rfl; have hdz1 := (blk_cell hK2.out 1).trans rfl; have hfz0 := blk_frozen hK2.out 0; have hfz1 := blk_frozen hK2.out 1)))
    have hK := blk_put (cs' := #[.int .i64 (-1), .pointer none]) (blk_put (cs' := #[.int .i64 (-1), .pointer none]) hK2.out 0 (.int .i64 (-1)) rfl) 1 (.pointer none) rfl
    exact ⟨rfl, _, results_single rfl (.cell g1 49 _ (0, 0) _ rfl hK hu49 rfl (by kernel_rfl) .nil), by rw [HE.out]; rfl, below_set (below_set hB1.out hG1.out) hG1.out⟩
  · have d1 : decide (k < first) = false := decide_eq_false c1
    by_cases c2 : first + n ≤ k
    · have d2 : decide (first + (n : Int) ≤ k) = true := decide_eq_true c2
      have he : atR first n rows k = no := by unfold atR; rw [if_neg c1, if_pos c2]
      have HE := Aside0.mk he
      clear he
      go_wp2_with (first | (go_at_call 30; ((with_reducible refine (onp_nowhere.calls _).mono ?_); rintro e w2 ⟨rfl, hb⟩; have n0_ := Aside0.mk (below_step hB1.out hb); have n1_ := Aside0.mk (blk_below hK2.out hb); (try clear hB1); (try clear hK2); (try clear hb); (try clear hdz0); (try clear hdz1); (try clear hfz0); (try clear hfz1); have hB1 := n0_; have hK2 := n1_; clear n0_ n1_; have hdz0 := (blk_cell hK2.out 0).trans rfl; have hdz1 := (blk_cell hK2.out 1).trans rfl; have hfz0 := blk_frozen hK2.out 0; have hfz1 := blk_frozen hK2.out 1)))
      have hK := blk_put (cs' := #[.int .i64 (-1), .pointer none]) (blk_put (cs' := #[.int .i64 (-1), .pointer none]) hK2.out 0 (.int .i64 (-1)) rfl) 1 (.pointer none) rfl
      exact ⟨rfl, _, results_single rfl (.cell g1 49 _ (0, 0) _ rfl hK hu49 rfl (by kernel_rfl) .nil), by rw [HE.out]; rfl, below_set (below_set hB1.out hG1.out) hG1.out⟩
    · have d2 : decide (first + (n : Int) ≤ k) = false := decide_eq_false c2
      obtain ⟨ad, rfl, hy, hz⟩ := HR.out.2 (k - first).toNat (by omega)
      have hy := pw_cell_below hB1.out hy
      have hz := pw_cell_below hB1.out hz
      have he : atR first n rows k = rows (k - first).toNat := by unfold atR; rw [if_neg c1, if_neg c2]
      have HE := Aside0.mk he
      clear he
      rw [← HE.out] at hy hz
      clear HE
      obtain ⟨x, hx⟩ : ∃ x, x = atR first n rows k := ⟨_, rfl⟩
      rw [← hx] at hy hz
      have HX := Aside0.mk hx
      clear hx
      have i0 : (0 : Int) ≤ k - first := by omega
      have i1 : k - first < (n : Int) := by omega
      go_wp2
      have hK := blk_put (cs' := #[.int .i64 x.1, .pointer x.2]) (blk_put (cs' := #[.int .i64 x.1, .pointer none]) hK2.out 0 (.int .i64 x.1) rfl) 1 (.pointer x.2) rfl
      exact ⟨rfl, _, results_single rfl (.cell g1 49 _ (0, 0) _ rfl hK hu49 rfl (by kernel_rfl) .nil), by rw [← HX.out]; rfl, below_set (below_set hB1.out hG1.out) hG1.out⟩

/-! ### of onp, by hand: Snake -/
/-! ### snake_within: function 34 -/
def snake_within.f (l0 : List Int) (l1 : List Int) (a2 : Int) (a3 : Int) : Option (Bool) := if a2 ≥ 0 then (if a2 ≤ (l0.length : Int) then (if a3 ≥ 0 then (some (decide (a3 ≤ (l1.length : Int)))) else (some false)) else (some false)) else (some false)
set_option maxHeartbeats 8000000 in
set_option maxRecDepth 100000 in
theorem snake_within.calls (A0 : Option Addr) (c0 : Nat) (l0 : List Int) (A1 : Option Addr) (c1 : Nat) (l1 : List Int) (a2 : Int) (a3 : Int) (r : Bool) (w : World) (hr0 : Kd.C (Kd.int .i64) w A0 l0.length l0) (hc0 : l0.length ≤ c0) (hr1 : Kd.C (Kd.int .i64) w A1 l1.length l1) (hc1 : l1.length ≤ c1) (h : snake_within.f l0 l1 a2 a3 = some r) :
    Calls Try.prog 34 #[.slice A0 l0.length c0, .slice A1 l1.length c1, .int .i64 a2, .int .i64 a3] w fun e w' => e = .returned (.bool r) ∧ Drawn0 w w' := by
  have HR0 := Aside0.mk hr0
  have HC0 := Aside0.mk hc0
  clear hr0 hc0
  have HR1 := Aside0.mk hr1
  have HC1 := Aside0.mk hc1
  clear hr1 hc1
  have H : (if a2 ≥ 0 then (if a2 ≤ (l0.length : Int) then (if a3 ≥ 0 then (some (decide (a3 ≤ (l1.length : Int)))) else (some false)) else (some false)) else (some false)) = some r := h
  clear h
  by_cases c5 : a2 ≥ 0
  · rw [if_pos c5] at H
    have c5b0 : decide (0 ≤ a2) = true := decide_eq_true c5
    clear c5
    by_cases c6 : a2 ≤ (l0.length : Int)
    · rw [if_pos c6] at H
      have c6b0 : decide (a2 ≤ (l0.length : Int)) = true := decide_eq_true c6
      clear c6
      by_cases c7 : a3 ≥ 0
      · rw [if_pos c7] at H
        have c7b0 : decide (0 ≤ a3) = true := decide_eq_true c7
        clear c7
        obtain rfl := Option.some.inj H
        go_enter Try.func34, Try.ntmps34
        go_wp2
        go_ret
        exact ⟨by first | rfl | (simp; done) | (simp [*]; done), by repeat (first | exact Drawn0.refl _ | apply Drawn0.step)⟩
      · rw [if_neg c7] at H
        have c7b0 : decide (0 ≤ a3) = false := decide_eq_false c7
        clear c7
        obtain rfl := Option.some.inj H
        go_enter Try.func34, Try.ntmps34
        go_wp2
        go_ret
        exact ⟨by first | rfl | (simp; done) | (simp [*]; done), by repeat (first | exact Drawn0.refl _ | apply Drawn0.step)⟩
    · rw [if_neg c6] at H
      have c6b0 : decide (a2 ≤ (l0.length : Int)) = false := decide_eq_false c6
      clear c6
      obtain rfl := Option.some.inj H
      go_enter Try.func34, Try.ntmps34
      go_wp2
      go_ret
      exact ⟨by first | rfl | (simp; done) | (simp [*]; done), by repeat (first | exact Drawn0.refl _ | apply Drawn0.step)⟩
  · rw [if_neg c5] at H
    have c5b0 : decide (0 ≤ a2) = false := decide_eq_false c5
    clear c5
    obtain rfl := Option.some.inj H
    go_enter Try.func34, Try.ntmps34
    go_wp2
    go_ret
    exact ⟨by first | rfl | (simp; done) | (simp [*]; done), by repeat (first | exact Drawn0.refl _ | apply Drawn0.step)⟩

/-! ### snake_Down: function 32 -/
def snake_Down.l0 : Nat → List Int → List Int → Int → Int → Int → Option (Int)
  | 0, _, _, _, _, _ => none
  | k + 1, x0, x1, x2, x3, x9 => if (wrap64 (x2 + x9)) < (x0.length : Int) then (if (wrap64 (x3 + x9)) < (x1.length : Int) then (if 0 ≤ (wrap64 (x2 + x9)) then (if 0 ≤ (wrap64 (x3 + x9)) then (if (rd x0 (wrap64 (x2 + x9))) = (rd x1 (wrap64 (x3 + x9))) then (snake_Down.l0 k x0 x1 x2 x3 (wrap64 (x9 + 1))) else (some x9)) else (none)) else (none)) else (some x9)) else (some x9)
def snake_Down.f (k : Nat) (l0 : List Int) (l1 : List Int) (a2 : Int) (a3 : Int) : Option (Int) := (snake_within.f l0 l1 a2 a3).bind fun t101 => (if t101 = true then (snake_Down.l0 k l0 l1 a2 a3 0) else (some 0))
theorem snake_Down.mono_l : ∀ k, (∀ y0 y1 y2 y3 y4, LeO (snake_Down.l0 k y0 y1 y2 y3 y4) (snake_Down.l0 (k + 1) y0 y1 y2 y3 y4))
  | 0 => fun _ _ _ _ _ r h => by simp [snake_Down.l0] at h
  | k + 1 => by
    have ih0 := snake_Down.mono_l k
    · intro y0 y1 y2 y3 y4
      unfold snake_Down.l0
      repeat' first
      | (with_reducible exact ih0 _ _ _ _ _)
      | (with_reducible exact LeO.refl _)
      | (with_reducible exact LeO.none _)
      | (with_reducible refine LeO.ite ?_ ?_)
      | (with_reducible refine LeO.bind ?_ (fun _ => ?_))
      | exact ih0 _ _ _ _ _
      | exact LeO.none _
      | refine LeO.ite ?_ ?_
      | refine LeO.bind ?_ (fun _ => ?_)
theorem snake_Down.mono : ∀ a0 a1 a2 a3 k, LeO (snake_Down.f k a0 a1 a2 a3) (snake_Down.f (k + 1) a0 a1 a2 a3) := by
  intro a0 a1 a2 a3 k
  have ih0 := snake_Down.mono_l k
  unfold snake_Down.f
  repeat' first
      | (with_reducible exact ih0 _ _ _ _ _)
      | (with_reducible exact LeO.refl _)
      | (with_reducible exact LeO.none _)
      | (with_reducible refine LeO.ite ?_ ?_)
      | (with_reducible refine LeO.bind ?_ (fun _ => ?_))
      | exact ih0 _ _ _ _ _
      | exact LeO.none _
      | refine LeO.ite ?_ ?_
      | refine LeO.bind ?_ (fun _ => ?_)
set_option maxHeartbeats 8000000 in
set_option maxRecDepth 100000 in
theorem snake_Down.calls (k : Nat) (A0 : Option Addr) (c0 : Nat) (l0 : List Int) (A1 : Option Addr) (c1 : Nat) (l1 : List Int) (a2 : Int) (a3 : Int) (r : Int) (w : World) (hr0 : Kd.C (Kd.int .i64) w A0 l0.length l0) (hc0 : l0.length ≤ c0) (hr1 : Kd.C (Kd.int .i64) w A1 l1.length l1) (hc1 : l1.length ≤ c1) (h : snake_Down.f k l0 l1 a2 a3 = some r) :
    Calls Try.prog 32 #[.slice A0 l0.length c0, .slice A1 l1.length c1, .int .i64 a2, .int .i64 a3] w fun e w' => e = .returned (.int .i64 r) ∧ Drawn0 w w' := by
  have HR0 := Aside0.mk hr0
  have HC0 := Aside0.mk hc0
  clear hr0 hc0
  have HR1 := Aside0.mk hr1
  have HC1 := Aside0.mk hc1
  clear hr1 hc1
  have H : ((snake_within.f l0 l1 a2 a3).bind fun t101 => (if t101 = true then (snake_Down.l0 k l0 l1 a2 a3 0) else (some 0))) = some r := h
  clear h
  replace H := Option.bind_eq_some_iff.mp H
  obtain ⟨t101, A50, H⟩ := H
  replace H : (if t101 = true then (snake_Down.l0 k l0 l1 a2 a3 0) else (some 0)) = some r := H
  have A5 := Aside0.mk A50
  clear A50
  by_cases c6 : t101 = true
  · subst c6
    have H1 : (snake_Down.l0 k l0 l1 a2 a3 0) = some r := by rw [if_pos rfl] at H; exact H
    clear H
    have H := H1
    clear H1
    have H' := Aside0.mk H
    clear H
    go_enter Try.func32, Try.ntmps32
    go_wp2_with (first | (go_at_call 34; (with_reducible refine (snake_within.calls _ _ l0 _ _ l1 a2 a3 true _ ?side1 ?side2 ?side3 ?side4 A5.out).mono ?_); (case side1 => repeat (first | exact HR0.out | (with_reducible refine Kd.C_alloc ?_ _) | (with_reducible refine Kd.C_drewN ?_ _) | (with_reducible refine Kd.C_drew ?_))); (case side2 => exact HC0.out); (case side3 => repeat (first | exact HR1.out | (with_reducible refine Kd.C_alloc ?_ _) | (with_reducible refine Kd.C_drewN ?_ _) | (with_reducible refine Kd.C_drew ?_))); (case side4 => exact HC1.out); rintro e w' ⟨rfl, ⟨nd, rfl⟩⟩; (try first | exact ⟨rfl, _, World.drewN_drewN _ _ _⟩ | exact ⟨rfl, _, Eq.trans (World.drewN_drewN _ _ _) (congrArg (World.drewN _) (Nat.add_assoc _ _ _))⟩)))
    repeat (go_quiet (first | (go_at_call 34; (with_reducible refine (snake_within.calls _ _ l0 _ _ l1 a2 a3 true _ ?side1 ?side2 ?side3 ?side4 A5.out).mono ?_); (case side1 => repeat (first | exact HR0.out | (with_reducible refine Kd.C_alloc ?_ _) | (with_reducible refine Kd.C_drewN ?_ _) | (with_reducible refine Kd.C_drew ?_))); (case side2 => exact HC0.out); (case side3 => repeat (first | exact HR1.out | (with_reducible refine Kd.C_alloc ?_ _) | (with_reducible refine Kd.C_drewN ?_ _) | (with_reducible refine Kd.C_drew ?_))); (case side4 => exact HC1.out); rintro e w' ⟨rfl, ⟨nd, rfl⟩⟩; (try first | exact ⟨rfl, _, World.drewN_drewN _ _ _⟩ | exact ⟨rfl, _, Eq.trans (World.drewN_drewN _ _ _) (congrArg (World.drewN _) (Nat.add_assoc _ _ _))⟩))); try go_wp2_with (first | (go_at_call 34; (with_reducible refine (snake_within.calls _ _ l0 _ _ l1 a2 a3 true _ ?side1 ?side2 ?side3 ?side4 A5.out).mono ?_); (case side1 => repeat (first | exact HR0.out | (with_reducible refine Kd.C_alloc ?_ _) | (with_reducible refine Kd.C_drewN ?_ _) | (with_reducible refine Kd.C_drew ?_))); (case side2 => exact HC0.out); (case side3 => repeat (first | exact HR1.out | (with_reducible refine Kd.C_alloc ?_ _) | (with_reducible refine Kd.C_drewN ?_ _) | (with_reducible refine Kd.C_drew ?_))); (case side4 => exact HC1.out); rintro e w' ⟨rfl, ⟨nd, rfl⟩⟩; (try first | exact ⟨rfl, _, World.drewN_drewN _ _ _⟩ | exact ⟨rfl, _, Eq.trans (World.drewN_drewN _ _ _) (congrArg (World.drewN _) (Nat.add_assoc _ _ _))⟩))))
    go_loopg [9] k (fun kq v9 w' => ∃ (x9_1 : Int), v9 = .int .i64 x9_1 ∧ Aside0 (snake_Down.l0 kq l0 l1 a2 a3 x9_1 = some r) ∧ Aside0 (kq ≤ k) ∧ Drawn0 w w')
    case atStart => exact ⟨(0), (by first | rfl | (simp; done) | (simp [*]; done)), H', ⟨Nat.le_refl _⟩, by repeat (first | exact Drawn0.refl _ | apply Drawn0.step)⟩
    case round =>
      clear H'
      try clear c1
      try clear p2
      try clear c6
      obtain ⟨x9_1, rfl, HA, HK1, ⟨m1, rfl⟩⟩ := hrel
      cases gk with
      | zero => exact absurd HA.out (by simp [snake_Down.l0])
      | succ k1 =>
        have H := HA.out
        clear HA
        simp only [snake_Down.l0] at H
        by_cases c7 : (wrap64 (a2 + x9_1)) < (l0.length : Int)
        · rw [if_pos c7] at H
          have c7b0 : decide ((wrap64 (a2 + x9_1)) < (l0.length : Int)) = true := decide_eq_true c7
          clear c7
          by_cases c8 : (wrap64 (a3 + x9_1)) < (l1.length : Int)
          · rw [if_pos c8] at H
            have c8b0 : decide ((wrap64 (a3 + x9_1)) < (l1.length : Int)) = true := decide_eq_true c8
            clear c8
            obtain ⟨ji9, hji9⟩ : ∃ j_ : Int, (wrap64 (a2 + x9_1)) = j_ := ⟨_, rfl⟩
            replace H : (if 0 ≤ (ji9) then (if 0 ≤ (wrap64 (a3 + x9_1)) then (if (rd l0 (ji9)) = (rd l1 (wrap64 (a3 + x9_1))) then (snake_Down.l0 k1 l0 l1 a2 a3 (wrap64 (x9_1 + 1))) else (some x9_1)) else (none)) else (none)) = some r := by first | (rw [hji9] at H; exact H) | (simp only [hji9] at H ⊢; exact H)
            (try rw [hji9] at c7b0)
            have hji9w : (IntKind.i64.wrap (a2 + x9_1)) = ji9 := (i64_w _).trans hji9
            by_cases c10 : 0 ≤ (ji9)
            · rw [if_pos c10] at H
              have c10b0 : decide (0 ≤ (ji9)) = true := decide_eq_true c10
              clear c10
              obtain ⟨ji11, hji11⟩ : ∃ j_ : Int, (wrap64 (a3 + x9_1)) = j_ := ⟨_, rfl⟩
              replace H : (if 0 ≤ (ji11) then (if (rd l0 (ji9)) = (rd l1 (ji11)) then (snake_Down.l0 k1 l0 l1 a2 a3 (wrap64 (x9_1 + 1))) else (some x9_1)) else (none)) = some r := by first | (rw [hji11] at H; exact H) | (simp only [hji11] at H ⊢; exact H)
              (try rw [hji11] at c8b0)
              have hji11w : (IntKind.i64.wrap (a3 + x9_1)) = ji11 := (i64_w _).trans hji11
              by_cases c12 : 0 ≤ (ji11)
              · rw [if_pos c12] at H
                have c12b0 : decide (0 ≤ (ji11)) = true := decide_eq_true c12
                clear c12
                by_cases c13 : (rd l0 (ji9)) = (rd l1 (ji11))
                · rw [if_pos c13] at H
                  have c13b0 : ((rd l0 (ji9)) == (rd l1 (ji11))) = true := beq_iff_eq.mpr c13
                  have c13b1 : ((rd l0 (ji9)) != (rd l1 (ji11))) = false := bne_eq_false_iff_eq.mpr c13
                  clear c13
                  have H' := Aside0.mk H
                  clear H
                  have p102 : 0 ≤ ((ji9) : Int) := of_decide_eq_true (by first | (with_reducible assumption) | assumption)
                  have q102 : (ji9) < (l0.length : Int) := of_decide_eq_true (by first | (with_reducible assumption) | assumption)
                  obtain ⟨ad102, e102, hx102_0⟩ := Kd.at_int HR0.out (ji9) p102 q102
                  cases e102
                  replace p102 := eq_true p102
                  replace q102 := eq_true q102
                  have p103 : 0 ≤ ((ji11) : Int) := of_decide_eq_true (by first | (with_reducible assumption) | assumption)
                  have q103 : (ji11) < (l1.length : Int) := of_decide_eq_true (by first | (with_reducible assumption) | assumption)
                  obtain ⟨ad103, e103, hx103_0⟩ := Kd.at_int HR1.out (ji11) p103 q103
                  cases e103
                  replace p103 := eq_true p103
                  replace q103 := eq_true q103
                  go_wp2
                  repeat (go_quiet (fail); try go_wp2)
                  go_roundg k1
                  case measure => have := HK1.out; omega
                  case rel => exact ⟨(wrap64 (x9_1 + 1)), (by first | rfl | (simp; done) | (simp [*]; done)), H', ⟨by have := HK1.out; omega⟩, by repeat (first | exact Drawn0.refl _ | apply Drawn0.step)⟩
                · rw [if_neg c13] at H
                  have c13b0 : ((rd l0 (ji9)) == (rd l1 (ji11))) = false := beq_eq_false_iff_ne.mpr c13
                  have c13b1 : ((rd l0 (ji9)) != (rd l1 (ji11))) = true := bne_iff_ne.mpr c13
                  obtain rfl := Option.some.inj H
                  have p102 : 0 ≤ ((ji9) : Int) := of_decide_eq_true (by first | (with_reducible assumption) | assumption)
                  have q102 : (ji9) < (l0.length : Int) := of_decide_eq_true (by first | (with_reducible assumption) | assumption)
                  obtain ⟨ad102, e102, hx102_0⟩ := Kd.at_int HR0.out (ji9) p102 q102
                  cases e102
                  replace p102 := eq_true p102
                  replace q102 := eq_true q102
                  have p103 : 0 ≤ ((ji11) : Int) := of_decide_eq_true (by first | (with_reducible assumption) | assumption)
                  have q103 : (ji11) < (l1.length : Int) := of_decide_eq_true (by first | (with_reducible assumption) | assumption)
                  obtain ⟨ad103, e103, hx103_0⟩ := Kd.at_int HR1.out (ji11) p103 q103
                  cases e103
                  replace p103 := eq_true p103
                  replace q103 := eq_true q103
                  go_wp2
                  repeat (go_quiet (fail); try go_wp2)
                  go_ret
                  exact ⟨by first | rfl | (simp; done) | (simp only [← hji9, ← hji11] <;> (first | rfl | simp)) | (simp [*]; done), by repeat (first | exact Drawn0.refl _ | apply Drawn0.step)⟩
              · rw [if_neg c12] at H
                exact absurd H (by simp)
            · rw [if_neg c10] at H
              exact absurd H (by simp)
          · rw [if_neg c8] at H
            have c8b0 : decide ((wrap64 (a3 + x9_1)) < (l1.length : Int)) = false := decide_eq_false c8
            clear c8
            obtain rfl := Option.some.inj H
            go_wp2
            repeat (go_quiet (fail); try go_wp2)
            go_ret
            exact ⟨by first | rfl | (simp; done) | (simp [*]; done), by repeat (first | exact Drawn0.refl _ | apply Drawn0.step)⟩
        · rw [if_neg c7] at H
          have c7b0 : decide ((wrap64 (a2 + x9_1)) < (l0.length : Int)) = false := decide_eq_false c7
          clear c7
          obtain rfl := Option.some.inj H
          go_wp2
          repeat (go_quiet (fail); try go_wp2)
          go_ret
          exact ⟨by first | rfl | (simp; done) | (simp [*]; done), by repeat (first | exact Drawn0.refl _ | apply Drawn0.step)⟩
  · replace c6 := Bool.eq_false_iff.mpr c6
    subst c6
    have H1 : (some 0) = some r := by rw [if_neg (show ¬ (false = true) by decide)] at H; exact H
    clear H
    have H := H1
    clear H1
    obtain rfl := Option.some.inj H
    go_enter Try.func32, Try.ntmps32
    go_wp2_with (first | (go_at_call 34; (with_reducible refine (snake_within.calls _ _ l0 _ _ l1 a2 a3 false _ ?side1 ?side2 ?side3 ?side4 A5.out).mono ?_); (case side1 => repeat (first | exact HR0.out | (with_reducible refine Kd.C_alloc ?_ _) | (with_reducible refine Kd.C_drewN ?_ _) | (with_reducible refine Kd.C_drew ?_))); (case side2 => exact HC0.out); (case side3 => repeat (first | exact HR1.out | (with_reducible refine Kd.C_alloc ?_ _) | (with_reducible refine Kd.C_drewN ?_ _) | (with_reducible refine Kd.C_drew ?_))); (case side4 => exact HC1.out); rintro e w' ⟨rfl, ⟨nd, rfl⟩⟩; (try first | exact ⟨rfl, _, World.drewN_drewN _ _ _⟩ | exact ⟨rfl, _, Eq.trans (World.drewN_drewN _ _ _) (congrArg (World.drewN _) (Nat.add_assoc _ _ _))⟩)))
    repeat (go_quiet (first | (go_at_call 34; (with_reducible refine (snake_within.calls _ _ l0 _ _ l1 a2 a3 false _ ?side1 ?side2 ?side3 ?side4 A5.out).mono ?_); (case side1 => repeat (first | exact HR0.out | (with_reducible refine Kd.C_alloc ?_ _) | (with_reducible refine Kd.C_drewN ?_ _) | (with_reducible refine Kd.C_drew ?_))); (case side2 => exact HC0.out); (case side3 => repeat (first | exact HR1.out | (with_reducible refine Kd.C_alloc ?_ _) | (with_reducible refine Kd.C_drewN ?_ _) | (with_reducible refine Kd.C_drew ?_))); (case side4 => exact HC1.out); rintro e w' ⟨rfl, ⟨nd, rfl⟩⟩; (try first | exact ⟨rfl, _, World.drewN_drewN _ _ _⟩ | exact ⟨rfl, _, Eq.trans (World.drewN_drewN _ _ _) (congrArg (World.drewN _) (Nat.add_assoc _ _ _))⟩))); try go_wp2_with (first | (go_at_call 34; (with_reducible refine (snake_within.calls _ _ l0 _ _ l1 a2 a3 false _ ?side1 ?side2 ?side3 ?side4 A5.out).mono ?_); (case side1 => repeat (first | exact HR0.out | (with_reducible refine Kd.C_alloc ?_ _) | (with_reducible refine Kd.C_drewN ?_ _) | (with_reducible refine Kd.C_drew ?_))); (case side2 => exact HC0.out); (case side3 => repeat (first | exact HR1.out | (with_reducible refine Kd.C_alloc ?_ _) | (with_reducible refine Kd.C_drewN ?_ _) | (with_reducible refine Kd.C_drew ?_))); (case side4 => exact HC1.out); rintro e w' ⟨rfl, ⟨nd, rfl⟩⟩; (try first | exact ⟨rfl, _, World.drewN_drewN _ _ _⟩ | exact ⟨rfl, _, Eq.trans (World.drewN_drewN _ _ _) (congrArg (World.drewN _) (Nat.add_assoc _ _ _))⟩))))
    go_ret
    exact ⟨by first | rfl | (simp; done) | (simp [*]; done), by repeat (first | exact Drawn0.refl _ | apply Drawn0.step)⟩


/-! ### of onp, by hand: Step -/
def StB (w W : World) (gb g0 g1 : Nat) (l r b : Int × Option Addr) : Prop := W.heap[gb]? = some (.cells #[.int .i64 b.1, .pointer b.2] 49 (0, 0)) ∧ W.heap[g0]? = some (.cells #[.int .i64 l.1, .pointer l.2] 49 (0, 0)) ∧ W.heap[g1]? = some (.cells #[.int .i64 r.1, .pointer r.2] 49 (0, 0)) ∧ Below w.heap.size w W
theorem StB.set1 {w W : World} {gb g0 g1 : Nat} {l r b : Int × Option Addr} (h : StB w W gb g0 g1 l r b) (h0 : g0 ≠ gb) (h1 : g1 ≠ gb) (hg : w.heap.size ≤ gb) (j : Int) : StB w (W.setCell ⟨gb, 0, none⟩ (.int .i64 j)) gb g0 g1 l r (j, b.2) :=
  ⟨blk_put h.1 0 (.int .i64 j) rfl, (Below.heap_setCell W ⟨gb, 0, none⟩ _ g0 h0).trans h.2.1, (Below.heap_setCell W ⟨gb, 0, none⟩ _ g1 h1).trans h.2.2.1, below_set h.2.2.2 hg⟩
theorem StB.set2 {w W : World} {gb g0 g1 : Nat} {l r b : Int × Option Addr} (h : StB w W gb g0 g1 l r b) (h0 : g0 ≠ gb) (h1 : g1 ≠ gb) (hg : w.heap.size ≤ gb) (q : Option Addr) : StB w (W.setCell ⟨gb, 1, none⟩ (.pointer q)) gb g0 g1 l r (b.1, q) :=
  ⟨blk_put h.1 1 (.pointer q) rfl, (Below.heap_setCell W ⟨gb, 1, none⟩ _ g0 h0).trans h.2.1, (Below.heap_setCell W ⟨gb, 1, none⟩ _ g1 h1).trans h.2.2.1, below_set h.2.2.2 hg⟩
theorem StB.below {w W W' : World} {gb g0 g1 : Nat} {l r b : Int × Option Addr} (h : StB w W gb g0 g1 l r b) (hb : Below W.heap.size W W') : StB w W' gb g0 g1 l r b :=
  ⟨blk_below h.1 hb, blk_below h.2.1 hb, blk_below h.2.2.1 hb, below_step h.2.2.2 hb⟩
/-- What the step leaves: a new world, and in it the row's element i. -/
def StPost (w : World) (ga i : Nat) (b : Int × Option Addr) (k j n : Int) (w' : World) : Prop :=
  ∃ W q, Below w.heap.size w W ∧ w' = (W.setCell ⟨ga, i * 2, none⟩ (.int .i64 (if 0 < n then j + n else j))).setCell ⟨ga, i * 2 + 1, none⟩ (.pointer q) ∧ ((0 < n ∧ ∃ g, q = some ⟨g, 0, none⟩ ∧ W.heap[g]? = some (.cells #[.int .i64 (j - k), .int .i64 j, .int .i64 n, .pointer b.2] 51 (0, 0))) ∨ (¬ 0 < n ∧ q = b.2))
theorem StPost.mk {w W : World} {ga i : Nat} {b : Int × Option Addr} {k j n : Int} {q : Option Addr} (hB : Below w.heap.size w W) (v : Int) (hv : v = if 0 < n then j + n else j) (h : (0 < n ∧ ∃ g, q = some ⟨g, 0, none⟩ ∧ W.heap[g]? = some (.cells #[.int .i64 (j - k), .int .i64 j, .int .i64 n, .pointer b.2] 51 (0, 0))) ∨ (¬ 0 < n ∧ q = b.2)) :
    StPost w ga i b k j n ((W.setCell ⟨ga, i * 2, none⟩ (.int .i64 v)).setCell ⟨ga, i * 2 + 1, none⟩ (.pointer q)) := ⟨W, q, hB, by rw [hv], h⟩
def m3 (a b c : Int) : Int := if c < (if b < a then b else a) then c else (if b < a then b else a)
theorem wr_ {x : Int} (h : -9223372036854775808 ≤ x) (h' : x < 9223372036854775808) : wrap64 x = x := by unfold wrap64; omega
def st1 (b l : Int × Option Addr) : Int × Option Addr := if l.1 + 1 > b.1 then (l.1 + 1, l.2) else b
def st2 (b r : Int × Option Addr) : Int × Option Addr := if r.1 > b.1 then r else b
theorem atR_bound {first : Int} {n : Nat} {rows : Nat → Int × Option Addr} {k : Int} (h : ∀ i, i < n → -1 ≤ (rows i).1 ∧ (rows i).1 ≤ 1000000000) : -1 ≤ (atR first n rows k).1 ∧ (atR first n rows k).1 ≤ 1000000000 := by
  unfold atR
  split
  · exact ⟨by decide, by decide⟩
  · split
    · exact ⟨by decide, by decide⟩
    · exact h _ (by omega)
set_option maxHeartbeats 8000000 in
set_option maxRecDepth 100000 in
theorem onp_step.calls (K : Nat) (k p : Int) (l r : Int × Option Addr) (gw gy gx gn gp ga : Nat) (fw : Int) (Aw : Option Addr) (nw cw : Nat) (rows : Nat → Int × Option Addr) (Ax Ay : Option Addr) (cx cy : Nat) (x y : List Int) (m cm : Nat) (arr : Array Value) (n : Int) (w : World)
    (KW : w.heap[gw]? = some (.cells #[.int .i64 fw, .slice Aw nw cw] 46 (0, 0))) (KY : w.heap[gy]? = some (.cells #[.slice Ay y.length cy] 24 (0, 0))) (KX : w.heap[gx]? = some (.cells #[.slice Ax x.length cx] 24 (0, 0)))
    (KN : w.heap[gn]? = some (.cells #[.int .i64 (-p), .slice (some ⟨ga, 0, none⟩) m cm] 46 (0, 0))) (KP : w.heap[gp]? = some (.cells #[.int .i64 p] 3 (0, 0))) (KA : w.heap[ga]? = some (.cells arr 49 (0, 0)))
    (hx : Kd.C (Kd.int .i64) w Ax x.length x) (hcx : x.length ≤ cx) (hy : Kd.C (Kd.int .i64) w Ay y.length y) (hcy : y.length ≤ cy) (hw : Reads w Aw nw rows)
    (hnw : nw ≤ 1000000000) (f1 : -1000000000 ≤ fw) (f2 : fw ≤ 1000000000) (k1 : -1000000000 ≤ k) (k2 : k ≤ 1000000000) (l1 : -1 ≤ l.1) (l2 : l.1 ≤ 1000000000) (r1 : -1 ≤ r.1) (r2 : r.1 ≤ 1000000000)
    (hm0 : 0 ≤ k + p) (hm1 : k + p < m) (hm2 : m ≤ 1000000000) (hA : 2 * m ≤ arr.size) (hrow : ∀ i, i < nw → -1 ≤ (rows i).1 ∧ (rows i).1 ≤ 1000000000) (hxl : x.length ≤ 1000000000) (hyl : y.length ≤ 1000000000)
    (hn0 : 0 ≤ n) (hn1 : n ≤ 1000000000)
    (hd : snake_Down.f K x y (m3 (st2 (st1 (atR fw nw rows k) l) r).1 y.length (x.length + k) - k) (m3 (st2 (st1 (atR fw nw rows k) l) r).1 y.length (x.length + k)) = some n) :
    Calls Try.prog 31 #[.int .i64 k, rc l, rc r, .pointer (some ⟨gw, 0, none⟩), .pointer (some ⟨gy, 0, none⟩), .pointer (some ⟨gx, 0, none⟩), .pointer (some ⟨gn, 0, none⟩), .pointer (some ⟨gp, 0, none⟩)] w fun e w' => e = .returned (.tuple #[]) ∧ StPost w ga (k + p).toNat (st2 (st1 (atR fw nw rows k) l) r) k (m3 (st2 (st1 (atR fw nw rows k) l) r).1 y.length (x.length + k)) n w' := by
  have hu49 := Try.underlying49
  have hu46 := Try.underlying46
  obtain ⟨lj, lp⟩ := l
  obtain ⟨rj, rp⟩ := r
  simp only [rc] at l1 l2 r1 r2 ⊢
  have HD := Aside0.mk hd
  clear hd
  have HWX := Aside0.mk (wr_ (x := (x.length : Int) + k) (by omega) (by omega))
  have HBB := Aside0.mk (atR_bound (first := fw) (k := k) hrow)
  clear hrow
  have HX := Aside0.mk hx
  have HY := Aside0.mk hy
  have HW := Aside0.mk hw
  have HCX := Aside0.mk hcx
  have HCY := Aside0.mk hcy
  have HKW := Aside0.mk KW
  have HKY := Aside0.mk KY
  have HKX := Aside0.mk KX
  have HKN := Aside0.mk KN
  have HKP := Aside0.mk KP
  have HKA := Aside0.mk KA
  have HIA := Aside0.mk (show (∃ u, arr[(k + p).toNat * 2]? = some u) ∧ ∃ u, arr[(k + p).toNat * 2 + 1]? = some u from ⟨⟨_, Array.getElem?_eq_getElem (by omega)⟩, ⟨_, Array.getElem?_eq_getElem (by omega)⟩⟩)
  clear hA
  clear hx hy hw hcx hcy KW KY KX KN KP KA
  have hB1 := Aside0.mk (below_alloc (below_alloc (Below.refl w.heap.size w) (.cells #[.int .i64 lj, .pointer lp] 49)) (.cells #[.int .i64 rj, .pointer rp] 49))
  have hL := Aside0.mk (blk_below (blk_new w (.cells #[.int .i64 lj, .pointer lp] 49)) (below_alloc (Below.refl _ _) (.cells #[.int .i64 rj, .pointer rp] 49)))
  have hR := Aside0.mk (show ((w.alloc (.cells #[.int .i64 lj, .pointer lp] 49)).alloc (.cells #[.int .i64 rj, .pointer rp] 49)).heap[w.heap.size + 1]? = some (.cells #[.int .i64 rj, .pointer rp] 49 (0, 0)) by have := blk_new (w.alloc (.cells #[.int .i64 lj, .pointer lp] 49)) (.cells #[.int .i64 rj, .pointer rp] 49); rwa [alloc_size] at this)
  go_enter Try.func31, Try.ntmps31
  go_upto_region 1 with fail
  generalize (w.alloc (.cells #[.int .i64 lj, .pointer lp] 49)).alloc (.cells #[.int .i64 rj, .pointer rp] 49) = wx at hB1 hL hR ⊢
  generalize hg1 : w.heap.size + 1 = g1 at hR ⊢
  generalize hg0 : w.heap.size = g0 at hL ⊢
  have hG1 := Aside0.mk (show w.heap.size ≤ g1 by omega)
  have hG0 := Aside0.mk (show w.heap.size ≤ g0 by omega)
  clear hg1 hg0
  have hw0 : wx.cell? ⟨gw, 0, none⟩ = some (.int .i64 fw) := (blk_cell (blk_below HKW.out hB1.out) 0).trans rfl
  have hw1 : wx.cell? ⟨gw, 1, none⟩ = some (.slice Aw nw cw) := (blk_cell (blk_below HKW.out hB1.out) 1).trans rfl
  have HWx : Aside0 (Reads wx Aw nw rows) := ⟨HW.out.1, fun i hi => by obtain ⟨ad, h1, h2, h3⟩ := HW.out.2 i hi; exact ⟨ad, h1, pw_cell_below hB1.out h2, pw_cell_below hB1.out h3⟩⟩
  go_upto_region 2 with (first
    | (go_at_call 29; ((with_reducible refine (onp_at.calls fw Aw nw cw rows k _ HWx.out hnw f1 f2 k1 k2).mono ?_); rintro e w2 ⟨rfl, hb⟩; have n0_ := Aside0.mk (below_step hB1.out hb); have n1_ := Aside0.mk (blk_below hL.out hb); have n2_ := Aside0.mk (blk_below hR.out hb); clear hB1 hL hR hb hw0 hw1 HWx; have hB1 := n0_; have hL := n1_; have hR := n2_; clear n0_ n1_ n2_; generalize hb_ : atR fw nw rows k = b at HBB HD ⊢; have HEB := Aside0.mk hb_; clear hb_; simp only [rc]))
    | ((with_reducible refine gate_dst (N := 11) rfl ?_); refine box_event ?hg (N := 11) ?hd (cs := #[.int .i64 0, .pointer none]) (t := 49) ?hr ?_; (case hd => rfl); (case hg => rfl); (case hr => first | (go_simp; done) | (go_simp; rfl)); intro gb hg w8 hbox hb; have n0_ := Aside0.mk (below_step hB1.out hb); have n1_ := Aside0.mk (blk_below hL.out hb); have n2_ := Aside0.mk (blk_below hR.out hb); have BK := Aside0.mk hbox; have HBG := Aside0.mk (show w.heap.size ≤ gb by rw [hg]; exact hB1.out.size); have HNE := Aside0.mk (show g0 ≠ gb ∧ g1 ≠ gb by rw [hg]; exact ⟨Nat.ne_of_lt (blk_lt hL.out), Nat.ne_of_lt (blk_lt hR.out)⟩); (try clear hB1); (try clear hL); (try clear hR); (try clear hb); (try clear hbox); (try clear hg); have hB1 := n0_; have hL := n1_; have hR := n2_; clear n0_ n1_ n2_; have hcz0 := (blk_cell BK.out 0).trans rfl; have hcz1 := (blk_cell BK.out 1).trans rfl; have hfz0 := blk_frozen BK.out 0; have hfz1 := blk_frozen BK.out 1))
  have HS := Aside0.mk (StB.set2 (StB.set1 (show StB w w8 gb g0 g1 (lj, lp) (rj, rp) (0, none) from ⟨BK.out, hL.out, hR.out, hB1.out⟩) HNE.out.1 HNE.out.2 HBG.out b.1) HNE.out.1 HNE.out.2 HBG.out b.2)
  clear hB1 hL hR BK hcz0 hcz1 hfz0 hfz1
  generalize (w8.setCell ⟨gb, 0, none⟩ (.int .i64 b.1)).setCell ⟨gb, 1, none⟩ (.pointer b.2) = wb at HS ⊢
  obtain ⟨b1, b2⟩ := b
  simp only at HS ⊢
  have hbb : -1 ≤ b1 ∧ b1 ≤ 1000000000 := HBB.out
  have hcz0 : wb.cell? ⟨gb, 0, none⟩ = some (.int .i64 b1) := (blk_cell HS.out.1 0).trans rfl
  have hcz1 : wb.cell? ⟨gb, 1, none⟩ = some (.pointer b2) := (blk_cell HS.out.1 1).trans rfl
  have hfz0 := blk_frozen HS.out.1 0
  have hfz1 := blk_frozen HS.out.1 1
  have hlz0 : wb.cell? ⟨g0, 0, none⟩ = some (.int .i64 lj) := (blk_cell HS.out.2.1 0).trans rfl
  have hlz1 : wb.cell? ⟨g0, 1, none⟩ = some (.pointer lp) := (blk_cell HS.out.2.1 1).trans rfl
  by_cases c1 : lj + 1 > b1
  · have e1 : st1 (b1, b2) (lj, lp) = (lj + 1, lp) := if_pos c1
    have d1 : decide (b1 < lj + 1) = true := decide_eq_true c1
    go_upto_region 4 with fail
    have n0_ := Aside0.mk (StB.set2 (StB.set1 HS.out HNE.out.1 HNE.out.2 HBG.out (lj + 1)) HNE.out.1 HNE.out.2 HBG.out lp)
    have HE := Aside0.mk e1
    clear HS hcz0 hcz1 hfz0 hfz1 hlz0 hlz1 d1 c1 e1
    have HS := Aside0.mk (show StB w _ gb g0 g1 (lj, lp) (rj, rp) (lj + 1, lp) from n0_.out)
    clear n0_
    generalize (wb.setCell ⟨gb, 0, none⟩ (.int .i64 (lj + 1))).setCell ⟨gb, 1, none⟩ (.pointer lp) = wc at HS ⊢
    have hj1 : -1 ≤ lj + 1 ∧ lj + 1 ≤ 1000000001 := by omega
    generalize lj + 1 = d1 at HS HE hj1 ⊢
    have hcz0 : wc.cell? ⟨gb, 0, none⟩ = some (.int .i64 d1) := (blk_cell HS.out.1 0).trans rfl
    have hcz1 : wc.cell? ⟨gb, 1, none⟩ = some (.pointer lp) := (blk_cell HS.out.1 1).trans rfl
    have hfz0 := blk_frozen HS.out.1 0
    have hfz1 := blk_frozen HS.out.1 1
    have hrz0 : wc.cell? ⟨g1, 0, none⟩ = some (.int .i64 rj) := (blk_cell HS.out.2.2.1 0).trans rfl
    have hrz1 : wc.cell? ⟨g1, 1, none⟩ = some (.pointer rp) := (blk_cell HS.out.2.2.1 1).trans rfl
    by_cases c2 : rj > d1
    · have e2 : st2 (d1, lp) (rj, rp) = (rj, rp) := if_pos c2
      have dd : decide (d1 < rj) = true := decide_eq_true c2
      go_upto_region 6 with fail
      have n0_ := Aside0.mk (StB.set2 (StB.set1 HS.out HNE.out.1 HNE.out.2 HBG.out rj) HNE.out.1 HNE.out.2 HBG.out rp)
      have HE2 := Aside0.mk e2
      clear HS hcz0 hcz1 hfz0 hfz1 hrz0 hrz1 dd c2 e2
      have HS := Aside0.mk (show StB w _ gb g0 g1 _ _ (rj, rp) from n0_.out)
      clear n0_
      generalize (wc.setCell ⟨gb, 0, none⟩ (.int .i64 rj)).setCell ⟨gb, 1, none⟩ (.pointer rp) = wd at HS ⊢
      have hcz0 : wd.cell? ⟨gb, 0, none⟩ = some (.int .i64 rj) := (blk_cell HS.out.1 0).trans rfl
      have hcz1 : wd.cell? ⟨gb, 1, none⟩ = some (.pointer rp) := (blk_cell HS.out.1 1).trans rfl
      have hfz0 := blk_frozen HS.out.1 0
      have hfz1 := blk_frozen HS.out.1 1
      have hyz : wd.cell? ⟨gy, 0, none⟩ = some (.slice Ay y.length cy) := (blk_cell (blk_below HKY.out HS.out.2.2.2) 0).trans rfl
      have hxz : wd.cell? ⟨gx, 0, none⟩ = some (.slice Ax x.length cx) := (blk_cell (blk_below HKX.out HS.out.2.2.2) 0).trans rfl
      go_upto_region 7 with fail
      try simp only [HWX.out]
      generalize hm : (if (x.length : Int) + k < (if (y.length : Int) < rj then (y.length : Int) else rj) then (x.length : Int) + k else (if (y.length : Int) < rj then (y.length : Int) else rj)) = j3
      have hd := HD.out
      rw [HE.out, HE2.out] at hd
      have HDn := Aside0.mk (show snake_Down.f K x y (j3 - k) j3 = some n by rw [← hm]; exact hd)
      have hjb : -1000000000 ≤ j3 ∧ j3 ≤ 1000000001 := by rw [← hm]; split <;> (try split) <;> omega
      have HM := Aside0.mk (show m3 rj y.length (x.length + k) = j3 from hm)
      clear hm hd
      have n0_ := Aside0.mk (StB.set1 HS.out HNE.out.1 HNE.out.2 HBG.out j3)
      clear HS hcz0 hcz1 hfz0 hfz1 hyz hxz
      have HS := n0_
      clear n0_
      generalize wd.setCell ⟨gb, 0, none⟩ (.int .i64 j3) = we at HS ⊢
      have hcz0 : we.cell? ⟨gb, 0, none⟩ = some (.int .i64 j3) := (blk_cell HS.out.1 0).trans rfl
      have hcz1 : we.cell? ⟨gb, 1, none⟩ = some (.pointer rp) := (blk_cell HS.out.1 1).trans rfl
      have hyz : we.cell? ⟨gy, 0, none⟩ = some (.slice Ay y.length cy) := (blk_cell (blk_below HKY.out HS.out.2.2.2) 0).trans rfl
      have hxz : we.cell? ⟨gx, 0, none⟩ = some (.slice Ax x.length cx) := (blk_cell (blk_below HKX.out HS.out.2.2.2) 0).trans rfl
      have HBe := Aside0.mk HS.out.2.2.2
      go_upto_region 8 with (first
        | (go_at_call 32; ((with_reducible refine (snake_Down.calls K _ _ x _ _ y (j3 - k) j3 n _ (Kd.C_below HX.out HBe.out) HCX.out (Kd.C_below HY.out HBe.out) HCY.out HDn.out).mono ?_); rintro e w2 ⟨rfl, hq⟩; have n0_ := Aside0.mk (HS.out.below hq.below); clear HS HBe hcz0 hcz1 hyz hxz hq; have HS := n0_; clear n0_)))
      by_cases c3 : 0 < n
      · have dn : decide (0 < n) = true := decide_eq_true c3
        have hcz0 : w2.cell? ⟨gb, 0, none⟩ = some (.int .i64 j3) := (blk_cell HS.out.1 0).trans rfl
        have hcz1 : w2.cell? ⟨gb, 1, none⟩ = some (.pointer rp) := (blk_cell HS.out.1 1).trans rfl
        have hfz0 := blk_frozen HS.out.1 0
        have hfz1 := blk_frozen HS.out.1 1
        go_upto_region 10 with (first | ((with_reducible refine gate_dst (N := 69) rfl ?_); refine box_event ?hg (N := 69) ?hd (cs := #[.int .i64 (j3 - k), .int .i64 j3, .int .i64 n, .pointer rp]) (t := 51) ?hr ?_; (case hd => rfl); (case hg => rfl); (case hr => first | (go_simp; done) | (go_simp; rfl)); intro g51 hg w8 hbox hb; have n0_ := Aside0.mk (HS.out.below hb); have BK := Aside0.mk hbox; clear HS hcz0 hcz1 hfz0 hfz1 hb hbox hg; have HS := n0_; clear n0_; have hcz0 : w8.cell? ⟨gb, 0, none⟩ = some (.int .i64 j3) := (blk_cell HS.out.1 0).trans rfl; have hcz1 : w8.cell? ⟨gb, 1, none⟩ = some (.pointer rp) := (blk_cell HS.out.1 1).trans rfl; have hfz0 := blk_frozen HS.out.1 0; have hfz1 := blk_frozen HS.out.1 1))
        have hn2 : -9223372036854775808 ≤ j3 + n ∧ j3 + n < 9223372036854775808 := by omega
        try simp only [wr_ hn2.1 hn2.2]
        have n0_ := Aside0.mk (StB.set2 (StB.set1 HS.out HNE.out.1 HNE.out.2 HBG.out (j3 + n)) HNE.out.1 HNE.out.2 HBG.out (some ⟨g51, 0, none⟩))
        have n1_ := Aside0.mk (((blk_far (blk_far BK.out (p := ⟨gb, 0, none⟩) (blk_ne BK.out HS.out.1 (by decide)) (.int .i64 (j3 + n))) (p := ⟨gb, 1, none⟩) (blk_ne BK.out HS.out.1 (by decide)) (.pointer (some ⟨g51, 0, none⟩)))))
        clear HS BK hcz0 hcz1 hfz0 hfz1
        have HS := n0_
        have BK := n1_
        clear n0_ n1_
        generalize (w8.setCell ⟨gb, 0, none⟩ (.int .i64 (j3 + n))).setCell ⟨gb, 1, none⟩ (.pointer (some ⟨g51, 0, none⟩)) = w9 at HS BK ⊢
        have hjr : -1000000000 ≤ j3 + n ∧ j3 + n ≤ 2000000001 := by omega
        have hcz0 : w9.cell? ⟨gb, 0, none⟩ = some (.int .i64 (j3 + n)) := (blk_cell HS.out.1 0).trans rfl
        have hcz1 : w9.cell? ⟨gb, 1, none⟩ = some (.pointer (some ⟨g51, 0, none⟩)) := (blk_cell HS.out.1 1).trans rfl
        have hnz : w9.cell? ⟨gn, 1, none⟩ = some (.slice (some ⟨ga, 0, none⟩) m cm) := (blk_cell (blk_below HKN.out HS.out.2.2.2) 1).trans rfl
        have hpz : w9.cell? ⟨gp, 0, none⟩ = some (.int .i64 p) := (blk_cell (blk_below HKP.out HS.out.2.2.2) 0).trans rfl
        have hfa := fun i => blk_frozen (blk_below HKA.out HS.out.2.2.2) i
        obtain ⟨⟨u0, hu0⟩, u1, hu1⟩ := HIA.out
        have haz0 : w9.cell? ⟨ga, (k + p).toNat * 2, none⟩ = some u0 := (blk_cell (blk_below HKA.out HS.out.2.2.2) _).trans hu0
        have haz1 : w9.cell? ⟨ga, (k + p).toNat * 2 + 1, none⟩ = some u1 := (blk_cell (blk_below HKA.out HS.out.2.2.2) _).trans hu1
        clear hu0 hu1
        go_wp2
        go_end0
        exact ⟨rfl, by rw [HEB.out, HE.out, HE2.out, HM.out]; exact StPost.mk HS.out.2.2.2 _ (by first | rw [if_pos c3] | rw [if_neg (Int.not_lt.mpr c3)]) (Or.inl ⟨c3, g51, rfl, BK.out⟩)⟩
      · have dn : decide (0 < n) = false := decide_eq_false c3
        go_upto_region 10 with fail
        have hcz0 : w2.cell? ⟨gb, 0, none⟩ = some (.int .i64 (j3)) := (blk_cell HS.out.1 0).trans rfl
        have hcz1 : w2.cell? ⟨gb, 1, none⟩ = some (.pointer (rp)) := (blk_cell HS.out.1 1).trans rfl
        have hnz : w2.cell? ⟨gn, 1, none⟩ = some (.slice (some ⟨ga, 0, none⟩) m cm) := (blk_cell (blk_below HKN.out HS.out.2.2.2) 1).trans rfl
        have hpz : w2.cell? ⟨gp, 0, none⟩ = some (.int .i64 p) := (blk_cell (blk_below HKP.out HS.out.2.2.2) 0).trans rfl
        have hfa := fun i => blk_frozen (blk_below HKA.out HS.out.2.2.2) i
        obtain ⟨⟨u0, hu0⟩, u1, hu1⟩ := HIA.out
        have haz0 : w2.cell? ⟨ga, (k + p).toNat * 2, none⟩ = some u0 := (blk_cell (blk_below HKA.out HS.out.2.2.2) _).trans hu0
        have haz1 : w2.cell? ⟨ga, (k + p).toNat * 2 + 1, none⟩ = some u1 := (blk_cell (blk_below HKA.out HS.out.2.2.2) _).trans hu1
        clear hu0 hu1
        go_wp2
        go_end0
        exact ⟨rfl, by rw [HEB.out, HE.out, HE2.out, HM.out]; exact StPost.mk HS.out.2.2.2 _ (by first | rw [if_pos c3] | rw [if_neg (Int.not_lt.mpr c3)]) (Or.inr ⟨Int.not_lt.mpr c3, rfl⟩)⟩
    · have e2 : st2 (d1, lp) (rj, rp) = (d1, lp) := if_neg c2
      have dd : decide (d1 < rj) = false := decide_eq_false c2
      go_upto_region 6 with fail
      have HE2 := Aside0.mk e2
      clear hcz0 hcz1 hfz0 hfz1 hrz0 hrz1 dd c2 e2
      have hcz0 : wc.cell? ⟨gb, 0, none⟩ = some (.int .i64 d1) := (blk_cell HS.out.1 0).trans rfl
      have hcz1 : wc.cell? ⟨gb, 1, none⟩ = some (.pointer lp) := (blk_cell HS.out.1 1).trans rfl
      have hfz0 := blk_frozen HS.out.1 0
      have hfz1 := blk_frozen HS.out.1 1
      have hyz : wc.cell? ⟨gy, 0, none⟩ = some (.slice Ay y.length cy) := (blk_cell (blk_below HKY.out HS.out.2.2.2) 0).trans rfl
      have hxz : wc.cell? ⟨gx, 0, none⟩ = some (.slice Ax x.length cx) := (blk_cell (blk_below HKX.out HS.out.2.2.2) 0).trans rfl
      go_upto_region 7 with fail
      try simp only [HWX.out]
      generalize hm : (if (x.length : Int) + k < (if (y.length : Int) < d1 then (y.length : Int) else d1) then (x.length : Int) + k else (if (y.length : Int) < d1 then (y.length : Int) else d1)) = j3
      have hd := HD.out
      rw [HE.out, HE2.out] at hd
      have HDn := Aside0.mk (show snake_Down.f K x y (j3 - k) j3 = some n by rw [← hm]; exact hd)
      have hjb : -1000000000 ≤ j3 ∧ j3 ≤ 1000000001 := by rw [← hm]; split <;> (try split) <;> omega
      have HM := Aside0.mk (show m3 d1 y.length (x.length + k) = j3 from hm)
      clear hm hd
      have n0_ := Aside0.mk (StB.set1 HS.out HNE.out.1 HNE.out.2 HBG.out j3)
      clear HS hcz0 hcz1 hfz0 hfz1 hyz hxz
      have HS := n0_
      clear n0_
      generalize wc.setCell ⟨gb, 0, none⟩ (.int .i64 j3) = we at HS ⊢
      have hcz0 : we.cell? ⟨gb, 0, none⟩ = some (.int .i64 j3) := (blk_cell HS.out.1 0).trans rfl
      have hcz1 : we.cell? ⟨gb, 1, none⟩ = some (.pointer lp) := (blk_cell HS.out.1 1).trans rfl
      have hyz : we.cell? ⟨gy, 0, none⟩ = some (.slice Ay y.length cy) := (blk_cell (blk_below HKY.out HS.out.2.2.2) 0).trans rfl
      have hxz : we.cell? ⟨gx, 0, none⟩ = some (.slice Ax x.length cx) := (blk_cell (blk_below HKX.out HS.out.2.2.2) 0).trans rfl
      have HBe := Aside0.mk HS.out.2.2.2
      go_upto_region 8 with (first
        | (go_at_call 32; ((with_reducible refine (snake_Down.calls K _ _ x _ _ y (j3 - k) j3 n _ (Kd.C_below HX.out HBe.out) HCX.out (Kd.C_below HY.out HBe.out) HCY.out HDn.out).mono ?_); rintro e w2 ⟨rfl, hq⟩; have n0_ := Aside0.mk (HS.out.below hq.below); clear HS HBe hcz0 hcz1 hyz hxz hq; have HS := n0_; clear n0_)))
      by_cases c3 : 0 < n
      · have dn : decide (0 < n) = true := decide_eq_true c3
        have hcz0 : w2.cell? ⟨gb, 0, none⟩ = some (.int .i64 j3) := (blk_cell HS.out.1 0).trans rfl
        have hcz1 : w2.cell? ⟨gb, 1, none⟩ = some (.pointer lp) := (blk_cell HS.out.1 1).trans rfl
        have hfz0 := blk_frozen HS.out.1 0
        have hfz1 := blk_frozen HS.out.1 1
        go_upto_region 10 with (first | ((with_reducible refine gate_dst (N := 69) rfl ?_); refine box_event ?hg (N := 69) ?hd (cs := #[.int .i64 (j3 - k), .int .i64 j3, .int .i64 n, .pointer lp]) (t := 51) ?hr ?_; (case hd => rfl); (case hg => rfl); (case hr => first | (go_simp; done) | (go_simp; rfl)); intro g51 hg w8 hbox hb; have n0_ := Aside0.mk (HS.out.below hb); have BK := Aside0.mk hbox; clear HS hcz0 hcz1 hfz0 hfz1 hb hbox hg; have HS := n0_; clear n0_; have hcz0 : w8.cell? ⟨gb, 0, none⟩ = some (.int .i64 j3) := (blk_cell HS.out.1 0).trans rfl; have hcz1 : w8.cell? ⟨gb, 1, none⟩ = some (.pointer lp) := (blk_cell HS.out.1 1).trans rfl; have hfz0 := blk_frozen HS.out.1 0; have hfz1 := blk_frozen HS.out.1 1))
        have hn2 : -9223372036854775808 ≤ j3 + n ∧ j3 + n < 9223372036854775808 := by omega
        try simp only [wr_ hn2.1 hn2.2]
        have n0_ := Aside0.mk (StB.set2 (StB.set1 HS.out HNE.out.1 HNE.out.2 HBG.out (j3 + n)) HNE.out.1 HNE.out.2 HBG.out (some ⟨g51, 0, none⟩))
        have n1_ := Aside0.mk (((blk_far (blk_far BK.out (p := ⟨gb, 0, none⟩) (blk_ne BK.out HS.out.1 (by decide)) (.int .i64 (j3 + n))) (p := ⟨gb, 1, none⟩) (blk_ne BK.out HS.out.1 (by decide)) (.pointer (some ⟨g51, 0, none⟩)))))
        clear HS BK hcz0 hcz1 hfz0 hfz1
        have HS := n0_
        have BK := n1_
        clear n0_ n1_
        generalize (w8.setCell ⟨gb, 0, none⟩ (.int .i64 (j3 + n))).setCell ⟨gb, 1, none⟩ (.pointer (some ⟨g51, 0, none⟩)) = w9 at HS BK ⊢
        have hjr : -1000000000 ≤ j3 + n ∧ j3 + n ≤ 2000000001 := by omega
        have hcz0 : w9.cell? ⟨gb, 0, none⟩ = some (.int .i64 (j3 + n)) := (blk_cell HS.out.1 0).trans rfl
        have hcz1 : w9.cell? ⟨gb, 1, none⟩ = some (.pointer (some ⟨g51, 0, none⟩)) := (blk_cell HS.out.1 1).trans rfl
        have hnz : w9.cell? ⟨gn, 1, none⟩ = some (.slice (some ⟨ga, 0, none⟩) m cm) := (blk_cell (blk_below HKN.out HS.out.2.2.2) 1).trans rfl
        have hpz : w9.cell? ⟨gp, 0, none⟩ = some (.int .i64 p) := (blk_cell (blk_below HKP.out HS.out.2.2.2) 0).trans rfl
        have hfa := fun i => blk_frozen (blk_below HKA.out HS.out.2.2.2) i
        obtain ⟨⟨u0, hu0⟩, u1, hu1⟩ := HIA.out
        have haz0 : w9.cell? ⟨ga, (k + p).toNat * 2, none⟩ = some u0 := (blk_cell (blk_below HKA.out HS.out.2.2.2) _).trans hu0
        have haz1 : w9.cell? ⟨ga, (k + p).toNat * 2 + 1, none⟩ = some u1 := (blk_cell (blk_below HKA.out HS.out.2.2.2) _).trans hu1
        clear hu0 hu1
        go_wp2
        go_end0
        exact ⟨rfl, by rw [HEB.out, HE.out, HE2.out, HM.out]; exact StPost.mk HS.out.2.2.2 _ (by first | rw [if_pos c3] | rw [if_neg (Int.not_lt.mpr c3)]) (Or.inl ⟨c3, g51, rfl, BK.out⟩)⟩
      · have dn : decide (0 < n) = false := decide_eq_false c3
        go_upto_region 10 with fail
        have hcz0 : w2.cell? ⟨gb, 0, none⟩ = some (.int .i64 (j3)) := (blk_cell HS.out.1 0).trans rfl
        have hcz1 : w2.cell? ⟨gb, 1, none⟩ = some (.pointer (lp)) := (blk_cell HS.out.1 1).trans rfl
        have hnz : w2.cell? ⟨gn, 1, none⟩ = some (.slice (some ⟨ga, 0, none⟩) m cm) := (blk_cell (blk_below HKN.out HS.out.2.2.2) 1).trans rfl
        have hpz : w2.cell? ⟨gp, 0, none⟩ = some (.int .i64 p) := (blk_cell (blk_below HKP.out HS.out.2.2.2) 0).trans rfl
        have hfa := fun i => blk_frozen (blk_below HKA.out HS.out.2.2.2) i
        obtain ⟨⟨u0, hu0⟩, u1, hu1⟩ := HIA.out
        have haz0 : w2.cell? ⟨ga, (k + p).toNat * 2, none⟩ = some u0 := (blk_cell (blk_below HKA.out HS.out.2.2.2) _).trans hu0
        have haz1 : w2.cell? ⟨ga, (k + p).toNat * 2 + 1, none⟩ = some u1 := (blk_cell (blk_below HKA.out HS.out.2.2.2) _).trans hu1
        clear hu0 hu1
        go_wp2
        go_end0
        exact ⟨rfl, by rw [HEB.out, HE.out, HE2.out, HM.out]; exact StPost.mk HS.out.2.2.2 _ (by first | rw [if_pos c3] | rw [if_neg (Int.not_lt.mpr c3)]) (Or.inr ⟨Int.not_lt.mpr c3, rfl⟩)⟩
  · have e1 : st1 (b1, b2) (lj, lp) = (b1, b2) := if_neg c1
    have d1 : decide (b1 < lj + 1) = false := decide_eq_false c1
    go_upto_region 4 with fail
    have HE := Aside0.mk e1
    clear hcz0 hcz1 hfz0 hfz1 hlz0 hlz1 d1 c1 e1
    have hj1 : -1 ≤ b1 ∧ b1 ≤ 1000000001 := by omega
    generalize wb = wc at HS ⊢
    have hcz0 : wc.cell? ⟨gb, 0, none⟩ = some (.int .i64 b1) := (blk_cell HS.out.1 0).trans rfl
    have hcz1 : wc.cell? ⟨gb, 1, none⟩ = some (.pointer b2) := (blk_cell HS.out.1 1).trans rfl
    have hfz0 := blk_frozen HS.out.1 0
    have hfz1 := blk_frozen HS.out.1 1
    have hrz0 : wc.cell? ⟨g1, 0, none⟩ = some (.int .i64 rj) := (blk_cell HS.out.2.2.1 0).trans rfl
    have hrz1 : wc.cell? ⟨g1, 1, none⟩ = some (.pointer rp) := (blk_cell HS.out.2.2.1 1).trans rfl
    by_cases c2 : rj > b1
    · have e2 : st2 (b1, b2) (rj, rp) = (rj, rp) := if_pos c2
      have dd : decide (b1 < rj) = true := decide_eq_true c2
      go_upto_region 6 with fail
      have n0_ := Aside0.mk (StB.set2 (StB.set1 HS.out HNE.out.1 HNE.out.2 HBG.out rj) HNE.out.1 HNE.out.2 HBG.out rp)
      have HE2 := Aside0.mk e2
      clear HS hcz0 hcz1 hfz0 hfz1 hrz0 hrz1 dd c2 e2
      have HS := Aside0.mk (show StB w _ gb g0 g1 _ _ (rj, rp) from n0_.out)
      clear n0_
      generalize (wc.setCell ⟨gb, 0, none⟩ (.int .i64 rj)).setCell ⟨gb, 1, none⟩ (.pointer rp) = wd at HS ⊢
      have hcz0 : wd.cell? ⟨gb, 0, none⟩ = some (.int .i64 rj) := (blk_cell HS.out.1 0).trans rfl
      have hcz1 : wd.cell? ⟨gb, 1, none⟩ = some (.pointer rp) := (blk_cell HS.out.1 1).trans rfl
      have hfz0 := blk_frozen HS.out.1 0
      have hfz1 := blk_frozen HS.out.1 1
      have hyz : wd.cell? ⟨gy, 0, none⟩ = some (.slice Ay y.length cy) := (blk_cell (blk_below HKY.out HS.out.2.2.2) 0).trans rfl
      have hxz : wd.cell? ⟨gx, 0, none⟩ = some (.slice Ax x.length cx) := (blk_cell (blk_below HKX.out HS.out.2.2.2) 0).trans rfl
      go_upto_region 7 with fail
      try simp only [HWX.out]
      generalize hm : (if (x.length : Int) + k < (if (y.length : Int) < rj then (y.length : Int) else rj) then (x.length : Int) + k else (if (y.length : Int) < rj then (y.length : Int) else rj)) = j3
      have hd := HD.out
      rw [HE.out, HE2.out] at hd
      have HDn := Aside0.mk (show snake_Down.f K x y (j3 - k) j3 = some n by rw [← hm]; exact hd)
      have hjb : -1000000000 ≤ j3 ∧ j3 ≤ 1000000001 := by rw [← hm]; split <;> (try split) <;> omega
      have HM := Aside0.mk (show m3 rj y.length (x.length + k) = j3 from hm)
      clear hm hd
      have n0_ := Aside0.mk (StB.set1 HS.out HNE.out.1 HNE.out.2 HBG.out j3)
      clear HS hcz0 hcz1 hfz0 hfz1 hyz hxz
      have HS := n0_
      clear n0_
      generalize wd.setCell ⟨gb, 0, none⟩ (.int .i64 j3) = we at HS ⊢
      have hcz0 : we.cell? ⟨gb, 0, none⟩ = some (.int .i64 j3) := (blk_cell HS.out.1 0).trans rfl
      have hcz1 : we.cell? ⟨gb, 1, none⟩ = some (.pointer rp) := (blk_cell HS.out.1 1).trans rfl
      have hyz : we.cell? ⟨gy, 0, none⟩ = some (.slice Ay y.length cy) := (blk_cell (blk_below HKY.out HS.out.2.2.2) 0).trans rfl
      have hxz : we.cell? ⟨gx, 0, none⟩ = some (.slice Ax x.length cx) := (blk_cell (blk_below HKX.out HS.out.2.2.2) 0).trans rfl
      have HBe := Aside0.mk HS.out.2.2.2
      go_upto_region 8 with (first
        | (go_at_call 32; ((with_reducible refine (snake_Down.calls K _ _ x _ _ y (j3 - k) j3 n _ (Kd.C_below HX.out HBe.out) HCX.out (Kd.C_below HY.out HBe.out) HCY.out HDn.out).mono ?_); rintro e w2 ⟨rfl, hq⟩; have n0_ := Aside0.mk (HS.out.below hq.below); clear HS HBe hcz0 hcz1 hyz hxz hq; have HS := n0_; clear n0_)))
      by_cases c3 : 0 < n
      · have dn : decide (0 < n) = true := decide_eq_true c3
        have hcz0 : w2.cell? ⟨gb, 0, none⟩ = some (.int .i64 j3) := (blk_cell HS.out.1 0).trans rfl
        have hcz1 : w2.cell? ⟨gb, 1, none⟩ = some (.pointer rp) := (blk_cell HS.out.1 1).trans rfl
        have hfz0 := blk_frozen HS.out.1 0
        have hfz1 := blk_frozen HS.out.1 1
        go_upto_region 10 with (first | ((with_reducible refine gate_dst (N := 69) rfl ?_); refine box_event ?hg (N := 69) ?hd (cs := #[.int .i64 (j3 - k), .int .i64 j3, .int .i64 n, .pointer rp]) (t := 51) ?hr ?_; (case hd => rfl); (case hg => rfl); (case hr => first | (go_simp; done) | (go_simp; rfl)); intro g51 hg w8 hbox hb; have n0_ := Aside0.mk (HS.out.below hb); have BK := Aside0.mk hbox; clear HS hcz0 hcz1 hfz0 hfz1 hb hbox hg; have HS := n0_; clear n0_; have hcz0 : w8.cell? ⟨gb, 0, none⟩ = some (.int .i64 j3) := (blk_cell HS.out.1 0).trans rfl; have hcz1 : w8.cell? ⟨gb, 1, none⟩ = some (.pointer rp) := (blk_cell HS.out.1 1).trans rfl; have hfz0 := blk_frozen HS.out.1 0; have hfz1 := blk_frozen HS.out.1 1))
        have hn2 : -9223372036854775808 ≤ j3 + n ∧ j3 + n < 9223372036854775808 := by omega
        try simp only [wr_ hn2.1 hn2.2]
        have n0_ := Aside0.mk (StB.set2 (StB.set1 HS.out HNE.out.1 HNE.out.2 HBG.out (j3 + n)) HNE.out.1 HNE.out.2 HBG.out (some ⟨g51, 0, none⟩))
        have n1_ := Aside0.mk (((blk_far (blk_far BK.out (p := ⟨gb, 0, none⟩) (blk_ne BK.out HS.out.1 (by decide)) (.int .i64 (j3 + n))) (p := ⟨gb, 1, none⟩) (blk_ne BK.out HS.out.1 (by decide)) (.pointer (some ⟨g51, 0, none⟩)))))
        clear HS BK hcz0 hcz1 hfz0 hfz1
        have HS := n0_
        have BK := n1_
        clear n0_ n1_
        generalize (w8.setCell ⟨gb, 0, none⟩ (.int .i64 (j3 + n))).setCell ⟨gb, 1, none⟩ (.pointer (some ⟨g51, 0, none⟩)) = w9 at HS BK ⊢
        have hjr : -1000000000 ≤ j3 + n ∧ j3 + n ≤ 2000000001 := by omega
        have hcz0 : w9.cell? ⟨gb, 0, none⟩ = some (.int .i64 (j3 + n)) := (blk_cell HS.out.1 0).trans rfl
        have hcz1 : w9.cell? ⟨gb, 1, none⟩ = some (.pointer (some ⟨g51, 0, none⟩)) := (blk_cell HS.out.1 1).trans rfl
        have hnz : w9.cell? ⟨gn, 1, none⟩ = some (.slice (some ⟨ga, 0, none⟩) m cm) := (blk_cell (blk_below HKN.out HS.out.2.2.2) 1).trans rfl
        have hpz : w9.cell? ⟨gp, 0, none⟩ = some (.int .i64 p) := (blk_cell (blk_below HKP.out HS.out.2.2.2) 0).trans rfl
        have hfa := fun i => blk_frozen (blk_below HKA.out HS.out.2.2.2) i
        obtain ⟨⟨u0, hu0⟩, u1, hu1⟩ := HIA.out
        have haz0 : w9.cell? ⟨ga, (k + p).toNat * 2, none⟩ = some u0 := (blk_cell (blk_below HKA.out HS.out.2.2.2) _).trans hu0
        have haz1 : w9.cell? ⟨ga, (k + p).toNat * 2 + 1, none⟩ = some u1 := (blk_cell (blk_below HKA.out HS.out.2.2.2) _).trans hu1
        clear hu0 hu1
        go_wp2
        go_end0
        exact ⟨rfl, by rw [HEB.out, HE.out, HE2.out, HM.out]; exact StPost.mk HS.out.2.2.2 _ (by first | rw [if_pos c3] | rw [if_neg (Int.not_lt.mpr c3)]) (Or.inl ⟨c3, g51, rfl, BK.out⟩)⟩
      · have dn : decide (0 < n) = false := decide_eq_false c3
        go_upto_region 10 with fail
        have hcz0 : w2.cell? ⟨gb, 0, none⟩ = some (.int .i64 (j3)) := (blk_cell HS.out.1 0).trans rfl
        have hcz1 : w2.cell? ⟨gb, 1, none⟩ = some (.pointer (rp)) := (blk_cell HS.out.1 1).trans rfl
        have hnz : w2.cell? ⟨gn, 1, none⟩ = some (.slice (some ⟨ga, 0, none⟩) m cm) := (blk_cell (blk_below HKN.out HS.out.2.2.2) 1).trans rfl
        have hpz : w2.cell? ⟨gp, 0, none⟩ = some (.int .i64 p) := (blk_cell (blk_below HKP.out HS.out.2.2.2) 0).trans rfl
        have hfa := fun i => blk_frozen (blk_below HKA.out HS.out.2.2.2) i
        obtain ⟨⟨u0, hu0⟩, u1, hu1⟩ := HIA.out
        have haz0 : w2.cell? ⟨ga, (k + p).toNat * 2, none⟩ = some u0 := (blk_cell (blk_below HKA.out HS.out.2.2.2) _).trans hu0
        have haz1 : w2.cell? ⟨ga, (k + p).toNat * 2 + 1, none⟩ = some u1 := (blk_cell (blk_below HKA.out HS.out.2.2.2) _).trans hu1
        clear hu0 hu1
        go_wp2
        go_end0
        exact ⟨rfl, by rw [HEB.out, HE.out, HE2.out, HM.out]; exact StPost.mk HS.out.2.2.2 _ (by first | rw [if_pos c3] | rw [if_neg (Int.not_lt.mpr c3)]) (Or.inr ⟨Int.not_lt.mpr c3, rfl⟩)⟩
    · have e2 : st2 (b1, b2) (rj, rp) = (b1, b2) := if_neg c2
      have dd : decide (b1 < rj) = false := decide_eq_false c2
      go_upto_region 6 with fail
      have HE2 := Aside0.mk e2
      clear hcz0 hcz1 hfz0 hfz1 hrz0 hrz1 dd c2 e2
      have hcz0 : wc.cell? ⟨gb, 0, none⟩ = some (.int .i64 b1) := (blk_cell HS.out.1 0).trans rfl
      have hcz1 : wc.cell? ⟨gb, 1, none⟩ = some (.pointer b2) := (blk_cell HS.out.1 1).trans rfl
      have hfz0 := blk_frozen HS.out.1 0
      have hfz1 := blk_frozen HS.out.1 1
      have hyz : wc.cell? ⟨gy, 0, none⟩ = some (.slice Ay y.length cy) := (blk_cell (blk_below HKY.out HS.out.2.2.2) 0).trans rfl
      have hxz : wc.cell? ⟨gx, 0, none⟩ = some (.slice Ax x.length cx) := (blk_cell (blk_below HKX.out HS.out.2.2.2) 0).trans rfl
      go_upto_region 7 with fail
      try simp only [HWX.out]
      generalize hm : (if (x.length : Int) + k < (if (y.length : Int) < b1 then (y.length : Int) else b1) then (x.length : Int) + k else (if (y.length : Int) < b1 then (y.length : Int) else b1)) = j3
      have hd := HD.out
      rw [HE.out, HE2.out] at hd
      have HDn := Aside0.mk (show snake_Down.f K x y (j3 - k) j3 = some n by rw [← hm]; exact hd)
      have hjb : -1000000000 ≤ j3 ∧ j3 ≤ 1000000001 := by rw [← hm]; split <;> (try split) <;> omega
      have HM := Aside0.mk (show m3 b1 y.length (x.length + k) = j3 from hm)
      clear hm hd
      have n0_ := Aside0.mk (StB.set1 HS.out HNE.out.1 HNE.out.2 HBG.out j3)
      clear HS hcz0 hcz1 hfz0 hfz1 hyz hxz
      have HS := n0_
      clear n0_
      generalize wc.setCell ⟨gb, 0, none⟩ (.int .i64 j3) = we at HS ⊢
      have hcz0 : we.cell? ⟨gb, 0, none⟩ = some (.int .i64 j3) := (blk_cell HS.out.1 0).trans rfl
      have hcz1 : we.cell? ⟨gb, 1, none⟩ = some (.pointer b2) := (blk_cell HS.out.1 1).trans rfl
      have hyz : we.cell? ⟨gy, 0, none⟩ = some (.slice Ay y.length cy) := (blk_cell (blk_below HKY.out HS.out.2.2.2) 0).trans rfl
      have hxz : we.cell? ⟨gx, 0, none⟩ = some (.slice Ax x.length cx) := (blk_cell (blk_below HKX.out HS.out.2.2.2) 0).trans rfl
      have HBe := Aside0.mk HS.out.2.2.2
      go_upto_region 8 with (first
        | (go_at_call 32; ((with_reducible refine (snake_Down.calls K _ _ x _ _ y (j3 - k) j3 n _ (Kd.C_below HX.out HBe.out) HCX.out (Kd.C_below HY.out HBe.out) HCY.out HDn.out).mono ?_); rintro e w2 ⟨rfl, hq⟩; have n0_ := Aside0.mk (HS.out.below hq.below); clear HS HBe hcz0 hcz1 hyz hxz hq; have HS := n0_; clear n0_)))
      by_cases c3 : 0 < n
      · have dn : decide (0 < n) = true := decide_eq_true c3
        have hcz0 : w2.cell? ⟨gb, 0, none⟩ = some (.int .i64 j3) := (blk_cell HS.out.1 0).trans rfl
        have hcz1 : w2.cell? ⟨gb, 1, none⟩ = some (.pointer b2) := (blk_cell HS.out.1 1).trans rfl
        have hfz0 := blk_frozen HS.out.1 0
        have hfz1 := blk_frozen HS.out.1 1
        go_upto_region 10 with (first | ((with_reducible refine gate_dst (N := 69) rfl ?_); refine box_event ?hg (N := 69) ?hd (cs := #[.int .i64 (j3 - k), .int .i64 j3, .int .i64 n, .pointer b2]) (t := 51) ?hr ?_; (case hd => rfl); (case hg => rfl); (case hr => first | (go_simp; done) | (go_simp; rfl)); intro g51 hg w8 hbox hb; have n0_ := Aside0.mk (HS.out.below hb); have BK := Aside0.mk hbox; clear HS hcz0 hcz1 hfz0 hfz1 hb hbox hg; have HS := n0_; clear n0_; have hcz0 : w8.cell? ⟨gb, 0, none⟩ = some (.int .i64 j3) := (blk_cell HS.out.1 0).trans rfl; have hcz1 : w8.cell? ⟨gb, 1, none⟩ = some (.pointer b2) := (blk_cell HS.out.1 1).trans rfl; have hfz0 := blk_frozen HS.out.1 0; have hfz1 := blk_frozen HS.out.1 1))
        have hn2 : -9223372036854775808 ≤ j3 + n ∧ j3 + n < 9223372036854775808 := by omega
        try simp only [wr_ hn2.1 hn2.2]
        have n0_ := Aside0.mk (StB.set2 (StB.set1 HS.out HNE.out.1 HNE.out.2 HBG.out (j3 + n)) HNE.out.1 HNE.out.2 HBG.out (some ⟨g51, 0, none⟩))
        have n1_ := Aside0.mk (((blk_far (blk_far BK.out (p := ⟨gb, 0, none⟩) (blk_ne BK.out HS.out.1 (by decide)) (.int .i64 (j3 + n))) (p := ⟨gb, 1, none⟩) (blk_ne BK.out HS.out.1 (by decide)) (.pointer (some ⟨g51, 0, none⟩)))))
        clear HS BK hcz0 hcz1 hfz0 hfz1
        have HS := n0_
        have BK := n1_
        clear n0_ n1_
        generalize (w8.setCell ⟨gb, 0, none⟩ (.int .i64 (j3 + n))).setCell ⟨gb, 1, none⟩ (.pointer (some ⟨g51, 0, none⟩)) = w9 at HS BK ⊢
        have hjr : -1000000000 ≤ j3 + n ∧ j3 + n ≤ 2000000001 := by omega
        have hcz0 : w9.cell? ⟨gb, 0, none⟩ = some (.int .i64 (j3 + n)) := (blk_cell HS.out.1 0).trans rfl
        have hcz1 : w9.cell? ⟨gb, 1, none⟩ = some (.pointer (some ⟨g51, 0, none⟩)) := (blk_cell HS.out.1 1).trans rfl
        have hnz : w9.cell? ⟨gn, 1, none⟩ = some (.slice (some ⟨ga, 0, none⟩) m cm) := (blk_cell (blk_below HKN.out HS.out.2.2.2) 1).trans rfl
        have hpz : w9.cell? ⟨gp, 0, none⟩ = some (.int .i64 p) := (blk_cell (blk_below HKP.out HS.out.2.2.2) 0).trans rfl
        have hfa := fun i => blk_frozen (blk_below HKA.out HS.out.2.2.2) i
        obtain ⟨⟨u0, hu0⟩, u1, hu1⟩ := HIA.out
        have haz0 : w9.cell? ⟨ga, (k + p).toNat * 2, none⟩ = some u0 := (blk_cell (blk_below HKA.out HS.out.2.2.2) _).trans hu0
        have haz1 : w9.cell? ⟨ga, (k + p).toNat * 2 + 1, none⟩ = some u1 := (blk_cell (blk_below HKA.out HS.out.2.2.2) _).trans hu1
        clear hu0 hu1
        go_wp2
        go_end0
        exact ⟨rfl, by rw [HEB.out, HE.out, HE2.out, HM.out]; exact StPost.mk HS.out.2.2.2 _ (by first | rw [if_pos c3] | rw [if_neg (Int.not_lt.mpr c3)]) (Or.inl ⟨c3, g51, rfl, BK.out⟩)⟩
      · have dn : decide (0 < n) = false := decide_eq_false c3
        go_upto_region 10 with fail
        have hcz0 : w2.cell? ⟨gb, 0, none⟩ = some (.int .i64 (j3)) := (blk_cell HS.out.1 0).trans rfl
        have hcz1 : w2.cell? ⟨gb, 1, none⟩ = some (.pointer (b2)) := (blk_cell HS.out.1 1).trans rfl
        have hnz : w2.cell? ⟨gn, 1, none⟩ = some (.slice (some ⟨ga, 0, none⟩) m cm) := (blk_cell (blk_below HKN.out HS.out.2.2.2) 1).trans rfl
        have hpz : w2.cell? ⟨gp, 0, none⟩ = some (.int .i64 p) := (blk_cell (blk_below HKP.out HS.out.2.2.2) 0).trans rfl
        have hfa := fun i => blk_frozen (blk_below HKA.out HS.out.2.2.2) i
        obtain ⟨⟨u0, hu0⟩, u1, hu1⟩ := HIA.out
        have haz0 : w2.cell? ⟨ga, (k + p).toNat * 2, none⟩ = some u0 := (blk_cell (blk_below HKA.out HS.out.2.2.2) _).trans hu0
        have haz1 : w2.cell? ⟨ga, (k + p).toNat * 2 + 1, none⟩ = some u1 := (blk_cell (blk_below HKA.out HS.out.2.2.2) _).trans hu1
        clear hu0 hu1
        go_wp2
        go_end0
        exact ⟨rfl, by rw [HEB.out, HE.out, HE2.out, HM.out]; exact StPost.mk HS.out.2.2.2 _ (by first | rw [if_pos c3] | rw [if_neg (Int.not_lt.mpr c3)]) (Or.inr ⟨Int.not_lt.mpr c3, rfl⟩)⟩

end Go.Proofs.Yteijoilcffhomaa.POnpFar
