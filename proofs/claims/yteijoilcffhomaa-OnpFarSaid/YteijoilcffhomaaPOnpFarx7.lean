/- What the given program's functions come to, each a Lean function and the walk that shows it: no condition beside those that each theorem names. -/
import Derived.Test.YteijoilcffhomaaPOnpFarx0
import Derived.Test.YteijoilcffhomaaPOnpFarx3
import Derived.Test.YteijoilcffhomaaPOnpFarx4
import Derived.Test.YteijoilcffhomaaPOnpFarx6
namespace Go.Proofs.Yteijoilcffhomaa.POnpFar
open Go.RowKit Go.Proofs.YteijoilcffhomaaW.PrintWords Go.Proofs.YteijoilcffhomaaW.PrintLast Go.Proofs.YteijoilcffhomaaW.PrintMore
attribute [local go_sem] max2_int min2_int max_two min_two max_three min_three max_four min_four   -- for this text's walks alone
set_option linter.unusedVariables false
set_option linter.unusedSimpArgs false

/-! ### tattingref15_Far: function 20, by hand -/
/-- The furthest place of a diagonal by the table, up to a row. -/
def ff15 (t : List (List Int)) (m : Nat) (w p k : Int) : Nat → Int
  | 0 => -1
  | i + 1 => if (i : Int) + k < 0 then ff15 t m w p k i else if (m : Int) < (i : Int) + k then ff15 t m w p k i else if (i : Int) - rd (rd_L2 t i) ((i : Int) + k) + mx (k - w) 0 ≤ p then mx (ff15 t m w p k i) ((i : Int) + k) else ff15 t m w p k i
theorem ff15_bd (t : List (List Int)) (m : Nat) (w p k : Int) : ∀ i, -1 ≤ ff15 t m w p k i ∧ ff15 t m w p k i ≤ m
  | 0 => by simp [ff15]
  | i + 1 => by
    have := ff15_bd t m w p k i
    unfold ff15
    split
    · exact this
    · split
      · exact this
      · split
        · unfold mx; split <;> omega
        · exact this
def ls15 (t : List (List Int)) (n m : Nat) (p : Nat) : Nat → List Int
  | 0 => []
  | q + 1 => ls15 t n m p q ++ [ff15 t m ((m : Int) - n) p ((q : Int) - p) (n + 1)]
theorem ls15_len (t : List (List Int)) (n m p : Nat) : ∀ q, (ls15 t n m p q).length = q
  | 0 => rfl
  | q + 1 => by rw [ls15, List.length_append, ls15_len t n m p q]; rfl
def tab15 (t : List (List Int)) (n m : Nat) : Prop := t.length = n + 1 ∧ ∀ i : Nat, i ≤ n → (rd_L2 t i).length = m + 1 ∧ ∀ j : Nat, j ≤ m → 0 ≤ rd (rd_L2 t i) j ∧ rd (rd_L2 t i) j ≤ 1000000
def tab15b (t : List (List Int)) (n m : Nat) : Bool := decide (t.length = n + 1) && (List.range (n + 1)).all fun i => decide ((rd_L2 t i).length = m + 1) && (List.range (m + 1)).all fun j => decide (0 ≤ rd (rd_L2 t i) j) && decide (rd (rd_L2 t i) j ≤ 1000000)
theorem tab15b_iff (t : List (List Int)) (n m : Nat) : tab15b t n m = true ↔ tab15 t n m := by
  unfold tab15b tab15
  simp only [Bool.and_eq_true, decide_eq_true_eq, List.all_eq_true, List.mem_range, Nat.lt_succ_iff]
def tattingref15_Far.g (k : Nat) (x y : List Int) (p : Int) : Option (List Int) := if p < 0 then some [] else if (x.length : Int) < p then some [] else (tattingref7_Ahead.f k x y).bind fun t => if tab15b t x.length y.length = true then some (ls15 t x.length y.length p.toNat (y.length - x.length + 2 * p.toNat + 1)) else none
def tattingref15_Far.f (k : Nat) (l0 l1 : List Int) (p : Int) : Option (List Int) := if l0.length ≤ 1000000 ∧ l1.length ≤ 1000000 then (if l1.length < l0.length then tattingref15_Far.g k l1 l0 p else tattingref15_Far.g k l0 l1 p) else none
theorem tattingref15_Far.mono_g (x y : List Int) (p : Int) (k : Nat) : LeO (tattingref15_Far.g k x y p) (tattingref15_Far.g (k + 1) x y p) := LeO.ite (LeO.refl _) (LeO.ite (LeO.refl _) (LeO.bind (tattingref7_Ahead.mono _ _ _) fun _ => LeO.refl _))
theorem tattingref15_Far.mono : ∀ a0 a1 a2 k, LeO (tattingref15_Far.f k a0 a1 a2) (tattingref15_Far.f (k + 1) a0 a1 a2) := fun _ _ _ _ => LeO.ite (LeO.ite (tattingref15_Far.mono_g _ _ _ _) (tattingref15_Far.mono_g _ _ _ _)) (LeO.refl _)
set_option maxHeartbeats 8000000 in
set_option maxRecDepth 100000 in
theorem tattingref15_Far.calls (k : Nat) (A0 : Option Addr) (c0 : Nat) (l0 : List Int) (A1 : Option Addr) (c1 : Nat) (l1 : List Int) (a2 : Int) (r : List Int) (w : World) (hr0 : Kd.C (Kd.int .i64) w A0 l0.length l0) (hc0 : l0.length ≤ c0) (hr1 : Kd.C (Kd.int .i64) w A1 l1.length l1) (hc1 : l1.length ≤ c1) (h : tattingref15_Far.f k l0 l1 a2 = some r) :
    Calls Try.prog 20 #[.slice A0 l0.length c0, .slice A1 l1.length c1, .int .i64 a2] w fun e w' => ∃ v0_ : Value, e = .returned (v0_) ∧ Kd.R (Kd.int .i64) 3 w' w.heap.size (fun _ => True) v0_ r ∧ Below w.heap.size w w' := by
  unfold tattingref15_Far.f at h
  by_cases hl : l0.length ≤ 1000000 ∧ l1.length ≤ 1000000
  · rw [if_pos hl] at h
    obtain ⟨hl0, hl1⟩ := hl
    have HR0 := Aside0.mk hr0
    have HR1 := Aside0.mk hr1
    have HC0 := Aside0.mk hc0
    have HC1 := Aside0.mk hc1
    have HB := Aside0.mk (Below.refl w.heap.size w)
    clear hr0 hr1 hc0 hc1
    by_cases hlt : l1.length < l0.length
    · rw [if_pos hlt] at h
      have H := Aside0.mk h
      have dlt : decide (l1.length < l0.length) = true := decide_eq_true hlt
      clear h
      go_enter Try.func20, Try.ntmps20
      try dsimp only [List.append]
      go_upto_region 4 with fail
      have hxy : l1.length ≤ l0.length := Nat.le_of_lt hlt
      clear hlt dlt
      have h := H.out
      clear H
      unfold tattingref15_Far.g at h
      by_cases hp0 : a2 < 0
      · rw [if_pos hp0] at h
        obtain rfl := Option.some.inj h
        have d0 : decide (a2 < 0) = true := decide_eq_true hp0
        go_wp2
        go_ret
        exact ⟨_, rfl, Kd.R_nil _ _ _ _ _, HB.out⟩
      · rw [if_neg hp0] at h
        have d0 : decide (a2 < 0) = false := decide_eq_false hp0
        by_cases hp1 : (l1.length : Int) < a2
        · rw [if_pos hp1] at h
          obtain rfl := Option.some.inj h
          have d1 : decide ((l1.length : Int) < a2) = true := decide_eq_true hp1
          go_wp2
          go_ret
          exact ⟨_, rfl, Kd.R_nil _ _ _ _ _, HB.out⟩
        · rw [if_neg hp1, Option.bind_eq_some_iff] at h
          obtain ⟨t, hT, h⟩ := h
          have d1 : decide ((l1.length : Int) < a2) = false := decide_eq_false hp1
          by_cases htab : tab15b t l1.length l0.length = true
          · rw [if_pos htab] at h
            obtain ⟨p, rfl⟩ := Int.eq_ofNat_of_zero_le (Int.not_lt.mp hp0)
            rw [Int.toNat_natCast] at h
            have HE := Aside0.mk (Option.some.inj h)
            have HTB := Aside0.mk ((tab15b_iff _ _ _).1 htab)
            have HT := Aside0.mk hT
            have hp : p ≤ l1.length := by omega
            clear h hp0 hp1 htab hT
            go_upto_region 8 with (first
              | (go_at_call 28; ((with_reducible refine (tattingref7_Ahead.calls k A1 c1 l1 A0 c0 l0 t _ (Kd.C_below HR1.out HB.out) HC1.out (Kd.C_below HR0.out HB.out) HC0.out HT.out).mono ?_); rintro e w3 ⟨v3, rfl, ho, hb⟩; obtain ⟨At, ct, rfl⟩ := Kd.S_slice ho; have n0_ := Aside0.mk (below_step HB.out hb); have HTC := Aside0.mk (Kd.S_reads' ho).2.2; clear HB ho hb; have HB := n0_; clear n0_)))
            go_wp2_with fail
            have HB3 := Aside0.mk (Below.refl w3.heap.size w3)
            go_loopw [12, 11] (fun v u wr => ∃ (q : Nat), q ≤ l0.length - l1.length + 2 * p + 1 ∧ v = .int .i64 ((q : Int) - p) ∧ Aside0 (Below w3.heap.size w3 wr) ∧ Aside0 (Kd.R (Kd.int .i64) 3 wr w3.heap.size (fun _ => True) u (ls15 t l1.length l0.length p q))) (fun v _ _ => ((l0.length : Int) - l1.length + p + 1 - intOf v).toNat)
            case atStart => exact ⟨0, by omega, by go_num, HB3, ⟨Kd.R_nil _ _ _ _ _⟩⟩
            case round =>
              clear HB3
              obtain ⟨q, hq, rfl, HBr, HO⟩ := hrel
              by_cases hlt : (q : Int) - p ≤ l0.length - l1.length + p
              · have HLS := Aside0.mk (show ls15 t l1.length l0.length p (q + 1) = ls15 t l1.length l0.length p q ++ [ff15 t l0.length ((l0.length : Int) - l1.length) p ((q : Int) - p) (l1.length + 1)] from rfl)
                have HLL := Aside0.mk (ls15_len t l1.length l0.length p q)
                generalize hk : (q : Int) - p = kk at hlt HLS ⊢
                have hk1 : -1000000 ≤ kk := by omega
                have hk2 : kk ≤ 2000000 := by omega
                have HK := Aside0.mk hk
                clear hk
                go_wp2_with fail
                go_loop [14, 13] (fun v14 v13 => ∃ (i : Nat), i ≤ l1.length + 1 ∧ v14 = .int .i64 i ∧ v13 = .int .i64 (ff15 t l0.length ((l0.length : Int) - l1.length) p kk i)) (fun v14 _ => l1.length + 1 - (intOf v14).toNat)
                case atStart => exact ⟨0, by omega, rfl, rfl⟩
                case round =>
                  obtain ⟨i, hi, rfl, rfl⟩ := hrel
                  have hfb := ff15_bd t l0.length ((l0.length : Int) - l1.length) p kk i
                  by_cases hil : i ≤ l1.length
                  · have dil : decide ((i : Int) ≤ (l1.length : Int)) = true := decide_eq_true (by omega)
                    have HFS := Aside0.mk (show ff15 t l0.length ((l0.length : Int) - l1.length) p kk (i + 1) = _ from ff15.eq_2 t l0.length ((l0.length : Int) - l1.length) p kk i)
                    generalize ff15 t l0.length ((l0.length : Int) - l1.length) p kk i = fi at hfb HFS
                    by_cases j0 : (i : Int) + kk < 0
                    · have d0 : decide ((i : Int) + kk < 0) = true := decide_eq_true j0
                      go_wp2_with fail
                      go_round
                      case rel => exact ⟨i + 1, by omega, by go_num, by rw [HFS.out, if_pos j0]⟩
                      case measure => simp [intOf]; omega
                    · have d0 : decide ((i : Int) + kk < 0) = false := decide_eq_false j0
                      by_cases j1 : (l0.length : Int) < (i : Int) + kk
                      · have d1 : decide ((l0.length : Int) < (i : Int) + kk) = true := decide_eq_true j1
                        go_wp2_with fail
                        go_round
                        case rel => exact ⟨i + 1, by omega, by go_num, by rw [HFS.out, if_neg j0, if_pos j1]⟩
                        case measure => simp [intOf]; omega
                      · have d1 : decide ((l0.length : Int) < (i : Int) + kk) = false := decide_eq_false j1
                        obtain ⟨jn, hjn⟩ := Int.eq_ofNat_of_zero_le (Int.not_lt.mp j0)
                        obtain ⟨hrl, hrz⟩ := HTB.out.2 i hil
                        have hz := hrz jn (by omega)
                        rw [← hjn] at hz
                        obtain ⟨ad, Ar, cr, eAt, hc1, hcl, hCr⟩ := at_L2 (Kd.C_below HTC.out HBr.out) (i : Int) (by omega) (by have := HTB.out.1; omega)
                        subst eAt
                        rw [Int.toNat_natCast] at hc1
                        obtain ⟨ad2, eAr, hc2⟩ := Kd.at_int hCr ((i : Int) + kk) (by omega) (by omega)
                        subst eAr
                        have gi0 : (0 : Int) ≤ (i : Int) := by omega
                        have gi1 : (i : Int) < (t.length : Int) := by have := HTB.out.1; omega
                        have gj0 : (0 : Int) ≤ (i : Int) + kk := by omega
                        have gj1 : (i : Int) + kk < ((rd_L2 t (i : Int)).length : Int) := by omega
                        clear hrl hrz hcl hCr hjn
                        generalize rd (rd_L2 t (i : Int)) ((i : Int) + kk) = z at hz hc2 HFS
                        generalize (rd_L2 t (i : Int)).length = rlen at hc1 gj1
                        obtain ⟨e, he⟩ : ∃ e, mx (kk - ((l0.length : Int) - l1.length)) 0 = e := ⟨_, rfl⟩
                        have hE : (if kk - ((l0.length : Int) - l1.length) < 0 then (0 : Int) else kk - ((l0.length : Int) - l1.length)) = e := he
                        have heb : 0 ≤ e ∧ e ≤ 4000000 := by rw [← he]; unfold mx; split <;> omega
                        rw [he] at HFS
                        clear he
                        by_cases c : (i : Int) - z + e ≤ p
                        · have dc : decide ((i : Int) - z + e ≤ (p : Int)) = true := decide_eq_true c
                          obtain ⟨f2, hf2⟩ : ∃ f2, mx fi ((i : Int) + kk) = f2 := ⟨_, rfl⟩
                          have hF2 : (if fi < (i : Int) + kk then (i : Int) + kk else fi) = f2 := hf2
                          rw [hf2] at HFS
                          clear hf2
                          go_wp2_with fail
                          go_round
                          case rel => exact ⟨i + 1, by omega, by go_num, by rw [HFS.out, if_neg j0, if_neg j1, if_pos c]⟩
                          case measure => simp [intOf]; omega
                        · have dc : decide ((i : Int) - z + e ≤ (p : Int)) = false := decide_eq_false c
                          go_wp2_with fail
                          go_round
                          case rel => exact ⟨i + 1, by omega, by go_num, by rw [HFS.out, if_neg j0, if_neg j1, if_neg c]⟩
                          case measure => simp [intOf]; omega
                  · obtain rfl : i = l1.length + 1 := by omega
                    have dil : decide (((l1.length + 1 : Nat) : Int) ≤ (l1.length : Int)) = false := decide_eq_false (by omega)
                    generalize ff15 t l0.length ((l0.length : Int) - l1.length) p kk (l1.length + 1) = fi at hfb HLS ⊢
                    have HQL := Aside0.mk hq
                    generalize ls15 t l1.length l0.length p q = xs at HO HLS HLL
                    go_wp2_with (first | ((with_reducible refine gate_builtin (b := .append) (xs := #[.tmp 86, .tmp 88]) rfl ?_); at_builtin; refine Kd.R_append (Kd.int .i64) (w0 := w3) w3.heap.size rfl (.tmp 86) (.tmp 88) 24 3 (.int .i64 0) 8 rfl Try.underlying24 info3_ rfl (by decide) (by omega) u11 xs fi [.int .i64 fi] (fun _ => True) (fun _ => False) rfl rfl ?aP (fun _ hk => hk.elim) ?aF ?aO ?aB ?aS ?aL ?_; (case aP => exact rfl); (case aB => exact (by repeat (first | (with_reducible first | exact HBr.out | apply below_alloc | apply pw_below_drewN | apply below_drew1) | exact HBr.out))); (case aF => exact (fun _ _ => trivial)); (case aO => exact (by (with_reducible repeat (first | apply Kd.R_alloc | apply Kd.R_drewN | apply Kd.R_drew)); exact HO.out)); (case aS => exact (below_size (by repeat (first | (with_reducible first | exact HBr.out | apply below_alloc | apply pw_below_drewN | apply below_drew1) | exact HBr.out)))); (case aL => have := HLL.out; have := HQL.out; omega); intro v140 w6 ho hb hg hat; rw [← HLS.out] at ho; have n0_ := Aside0.mk hb; have n1_ := Aside0.mk ho; clear HBr HO ho hb hg hat; have HBr := n0_; have HO := n1_; clear n0_ n1_))
                    go_roundw
                    case rel => exact ⟨q + 1, by have := HK.out; omega, by have := HK.out; congr 1; omega, HBr, HO⟩
                    case measure => simp [intOf]; omega
              · obtain rfl : q = l0.length - l1.length + 2 * p + 1 := by omega
                go_wp2
                go_ret
                exact ⟨_, rfl, by rw [← HE.out]; exact Kd.R_lower HO.out HB.out.size, below_step HB.out HBr.out⟩
          · rw [if_neg htab] at h
            cases h
    · rw [if_neg hlt] at h
      have H := Aside0.mk h
      have dlt : decide (l1.length < l0.length) = false := decide_eq_false hlt
      have hxy : l0.length ≤ l1.length := Nat.not_lt.mp hlt
      clear h hlt
      go_enter Try.func20, Try.ntmps20
      try dsimp only [List.append]
      go_upto_region 4 with fail
      clear dlt
      have h := H.out
      clear H
      unfold tattingref15_Far.g at h
      by_cases hp0 : a2 < 0
      · rw [if_pos hp0] at h
        obtain rfl := Option.some.inj h
        have d0 : decide (a2 < 0) = true := decide_eq_true hp0
        go_wp2
        go_ret
        exact ⟨_, rfl, Kd.R_nil _ _ _ _ _, HB.out⟩
      · rw [if_neg hp0] at h
        have d0 : decide (a2 < 0) = false := decide_eq_false hp0
        by_cases hp1 : (l0.length : Int) < a2
        · rw [if_pos hp1] at h
          obtain rfl := Option.some.inj h
          have d1 : decide ((l0.length : Int) < a2) = true := decide_eq_true hp1
          go_wp2
          go_ret
          exact ⟨_, rfl, Kd.R_nil _ _ _ _ _, HB.out⟩
        · rw [if_neg hp1, Option.bind_eq_some_iff] at h
          obtain ⟨t, hT, h⟩ := h
          have d1 : decide ((l0.length : Int) < a2) = false := decide_eq_false hp1
          by_cases htab : tab15b t l0.length l1.length = true
          · rw [if_pos htab] at h
            obtain ⟨p, rfl⟩ := Int.eq_ofNat_of_zero_le (Int.not_lt.mp hp0)
            rw [Int.toNat_natCast] at h
            have HE := Aside0.mk (Option.some.inj h)
            have HTB := Aside0.mk ((tab15b_iff _ _ _).1 htab)
            have HT := Aside0.mk hT
            have hp : p ≤ l0.length := by omega
            clear h hp0 hp1 htab hT
            go_upto_region 8 with (first
              | (go_at_call 28; ((with_reducible refine (tattingref7_Ahead.calls k A0 c0 l0 A1 c1 l1 t _ (Kd.C_below HR0.out HB.out) HC0.out (Kd.C_below HR1.out HB.out) HC1.out HT.out).mono ?_); rintro e w3 ⟨v3, rfl, ho, hb⟩; obtain ⟨At, ct, rfl⟩ := Kd.S_slice ho; have n0_ := Aside0.mk (below_step HB.out hb); have HTC := Aside0.mk (Kd.S_reads' ho).2.2; clear HB ho hb; have HB := n0_; clear n0_)))
            go_wp2_with fail
            have HB3 := Aside0.mk (Below.refl w3.heap.size w3)
            go_loopw [12, 11] (fun v u wr => ∃ (q : Nat), q ≤ l1.length - l0.length + 2 * p + 1 ∧ v = .int .i64 ((q : Int) - p) ∧ Aside0 (Below w3.heap.size w3 wr) ∧ Aside0 (Kd.R (Kd.int .i64) 3 wr w3.heap.size (fun _ => True) u (ls15 t l0.length l1.length p q))) (fun v _ _ => ((l1.length : Int) - l0.length + p + 1 - intOf v).toNat)
            case atStart => exact ⟨0, by omega, by go_num, HB3, ⟨Kd.R_nil _ _ _ _ _⟩⟩
            case round =>
              clear HB3
              obtain ⟨q, hq, rfl, HBr, HO⟩ := hrel
              by_cases hlt : (q : Int) - p ≤ l1.length - l0.length + p
              · have HLS := Aside0.mk (show ls15 t l0.length l1.length p (q + 1) = ls15 t l0.length l1.length p q ++ [ff15 t l1.length ((l1.length : Int) - l0.length) p ((q : Int) - p) (l0.length + 1)] from rfl)
                have HLL := Aside0.mk (ls15_len t l0.length l1.length p q)
                generalize hk : (q : Int) - p = kk at hlt HLS ⊢
                have hk1 : -1000000 ≤ kk := by omega
                have hk2 : kk ≤ 2000000 := by omega
                have HK := Aside0.mk hk
                clear hk
                go_wp2_with fail
                go_loop [14, 13] (fun v14 v13 => ∃ (i : Nat), i ≤ l0.length + 1 ∧ v14 = .int .i64 i ∧ v13 = .int .i64 (ff15 t l1.length ((l1.length : Int) - l0.length) p kk i)) (fun v14 _ => l0.length + 1 - (intOf v14).toNat)
                case atStart => exact ⟨0, by omega, rfl, rfl⟩
                case round =>
                  obtain ⟨i, hi, rfl, rfl⟩ := hrel
                  have hfb := ff15_bd t l1.length ((l1.length : Int) - l0.length) p kk i
                  by_cases hil : i ≤ l0.length
                  · have dil : decide ((i : Int) ≤ (l0.length : Int)) = true := decide_eq_true (by omega)
                    have HFS := Aside0.mk (show ff15 t l1.length ((l1.length : Int) - l0.length) p kk (i + 1) = _ from ff15.eq_2 t l1.length ((l1.length : Int) - l0.length) p kk i)
                    generalize ff15 t l1.length ((l1.length : Int) - l0.length) p kk i = fi at hfb HFS
                    by_cases j0 : (i : Int) + kk < 0
                    · have d0 : decide ((i : Int) + kk < 0) = true := decide_eq_true j0
                      go_wp2_with fail
                      go_round
                      case rel => exact ⟨i + 1, by omega, by go_num, by rw [HFS.out, if_pos j0]⟩
                      case measure => simp [intOf]; omega
                    · have d0 : decide ((i : Int) + kk < 0) = false := decide_eq_false j0
                      by_cases j1 : (l1.length : Int) < (i : Int) + kk
                      · have d1 : decide ((l1.length : Int) < (i : Int) + kk) = true := decide_eq_true j1
                        go_wp2_with fail
                        go_round
                        case rel => exact ⟨i + 1, by omega, by go_num, by rw [HFS.out, if_neg j0, if_pos j1]⟩
                        case measure => simp [intOf]; omega
                      · have d1 : decide ((l1.length : Int) < (i : Int) + kk) = false := decide_eq_false j1
                        obtain ⟨jn, hjn⟩ := Int.eq_ofNat_of_zero_le (Int.not_lt.mp j0)
                        obtain ⟨hrl, hrz⟩ := HTB.out.2 i hil
                        have hz := hrz jn (by omega)
                        rw [← hjn] at hz
                        obtain ⟨ad, Ar, cr, eAt, hc1, hcl, hCr⟩ := at_L2 (Kd.C_below HTC.out HBr.out) (i : Int) (by omega) (by have := HTB.out.1; omega)
                        subst eAt
                        rw [Int.toNat_natCast] at hc1
                        obtain ⟨ad2, eAr, hc2⟩ := Kd.at_int hCr ((i : Int) + kk) (by omega) (by omega)
                        subst eAr
                        have gi0 : (0 : Int) ≤ (i : Int) := by omega
                        have gi1 : (i : Int) < (t.length : Int) := by have := HTB.out.1; omega
                        have gj0 : (0 : Int) ≤ (i : Int) + kk := by omega
                        have gj1 : (i : Int) + kk < ((rd_L2 t (i : Int)).length : Int) := by omega
                        clear hrl hrz hcl hCr hjn
                        generalize rd (rd_L2 t (i : Int)) ((i : Int) + kk) = z at hz hc2 HFS
                        generalize (rd_L2 t (i : Int)).length = rlen at hc1 gj1
                        obtain ⟨e, he⟩ : ∃ e, mx (kk - ((l1.length : Int) - l0.length)) 0 = e := ⟨_, rfl⟩
                        have hE : (if kk - ((l1.length : Int) - l0.length) < 0 then (0 : Int) else kk - ((l1.length : Int) - l0.length)) = e := he
                        have heb : 0 ≤ e ∧ e ≤ 4000000 := by rw [← he]; unfold mx; split <;> omega
                        rw [he] at HFS
                        clear he
                        by_cases c : (i : Int) - z + e ≤ p
                        · have dc : decide ((i : Int) - z + e ≤ (p : Int)) = true := decide_eq_true c
                          obtain ⟨f2, hf2⟩ : ∃ f2, mx fi ((i : Int) + kk) = f2 := ⟨_, rfl⟩
                          have hF2 : (if fi < (i : Int) + kk then (i : Int) + kk else fi) = f2 := hf2
                          rw [hf2] at HFS
                          clear hf2
                          go_wp2_with fail
                          go_round
                          case rel => exact ⟨i + 1, by omega, by go_num, by rw [HFS.out, if_neg j0, if_neg j1, if_pos c]⟩
                          case measure => simp [intOf]; omega
                        · have dc : decide ((i : Int) - z + e ≤ (p : Int)) = false := decide_eq_false c
                          go_wp2_with fail
                          go_round
                          case rel => exact ⟨i + 1, by omega, by go_num, by rw [HFS.out, if_neg j0, if_neg j1, if_neg c]⟩
                          case measure => simp [intOf]; omega
                  · obtain rfl : i = l0.length + 1 := by omega
                    have dil : decide (((l0.length + 1 : Nat) : Int) ≤ (l0.length : Int)) = false := decide_eq_false (by omega)
                    generalize ff15 t l1.length ((l1.length : Int) - l0.length) p kk (l0.length + 1) = fi at hfb HLS ⊢
                    have HQL := Aside0.mk hq
                    generalize ls15 t l0.length l1.length p q = xs at HO HLS HLL
                    go_wp2_with (first | ((with_reducible refine gate_builtin (b := .append) (xs := #[.tmp 86, .tmp 88]) rfl ?_); at_builtin; refine Kd.R_append (Kd.int .i64) (w0 := w3) w3.heap.size rfl (.tmp 86) (.tmp 88) 24 3 (.int .i64 0) 8 rfl Try.underlying24 info3_ rfl (by decide) (by omega) u11 xs fi [.int .i64 fi] (fun _ => True) (fun _ => False) rfl rfl ?aP (fun _ hk => hk.elim) ?aF ?aO ?aB ?aS ?aL ?_; (case aP => exact rfl); (case aB => exact (by repeat (first | (with_reducible first | exact HBr.out | apply below_alloc | apply pw_below_drewN | apply below_drew1) | exact HBr.out))); (case aF => exact (fun _ _ => trivial)); (case aO => exact (by (with_reducible repeat (first | apply Kd.R_alloc | apply Kd.R_drewN | apply Kd.R_drew)); exact HO.out)); (case aS => exact (below_size (by repeat (first | (with_reducible first | exact HBr.out | apply below_alloc | apply pw_below_drewN | apply below_drew1) | exact HBr.out)))); (case aL => have := HLL.out; have := HQL.out; omega); intro v140 w6 ho hb hg hat; rw [← HLS.out] at ho; have n0_ := Aside0.mk hb; have n1_ := Aside0.mk ho; clear HBr HO ho hb hg hat; have HBr := n0_; have HO := n1_; clear n0_ n1_))
                    go_roundw
                    case rel => exact ⟨q + 1, by have := HK.out; omega, by have := HK.out; congr 1; omega, HBr, HO⟩
                    case measure => simp [intOf]; omega
              · obtain rfl : q = l1.length - l0.length + 2 * p + 1 := by omega
                go_wp2
                go_ret
                exact ⟨_, rfl, by rw [← HE.out]; exact Kd.R_lower HO.out HB.out.size, below_step HB.out HBr.out⟩
          · rw [if_neg htab] at h
            cases h
  · rw [if_neg hl] at h
    cases h

/-! ### tattinglaw18_OnpFar: function 6 -/
def tattinglaw18_OnpFar.j0 : Nat → List Int → List Int → Int → Bool → Option (Bool)
  | 0, _, _, _, _ => none
  | k + 1, x0, x1, x2, x18 => if x18 = true then (some true) else ((tattingref1_Few.f k x0 3).bind fun t235 => ((tattingref1_Few.f k x1 3).bind fun t238 => ((onp_Far.f k t235 t238 x2).bind fun t241 => ((tattingref15_Far.f k t235 t238 x2).bind fun t244 => ((tattingref1_SameInts.f k t241 t244).bind fun t247 => (if t247 = true then ((onp_Far.f k t235 t238 (wrap64 (Int.tmod (IntKind.u64.wrap (x2)) 6))).bind fun t248 => ((tattingref15_Far.f k t235 t238 (wrap64 (Int.tmod (IntKind.u64.wrap (x2)) 6))).bind fun t251 => ((tattingref1_SameInts.f k t248 t251).bind fun t254 => (some t254)))) else (some false)))))))
def tattinglaw18_OnpFar.f (k : Nat) (l0 : List Int) (l1 : List Int) (a2 : Int) : Option (Bool) := (tattinglaw18_awake.f k).bind fun t234 => (if t234 = true then (if (l0.length : Int) > 25 then (tattinglaw18_OnpFar.j0 k l0 l1 a2 true) else (tattinglaw18_OnpFar.j0 k l0 l1 a2 (decide ((l1.length : Int) > 25)))) else (some false))
theorem tattinglaw18_OnpFar.mono_l : ∀ k, (∀ y0 y1 y2 y3, LeO (tattinglaw18_OnpFar.j0 k y0 y1 y2 y3) (tattinglaw18_OnpFar.j0 (k + 1) y0 y1 y2 y3))
  | 0 => fun _ _ _ _ r h => by simp [tattinglaw18_OnpFar.j0] at h
  | k + 1 => by
    have ih0 := tattinglaw18_OnpFar.mono_l k
    · intro y0 y1 y2 y3
      unfold tattinglaw18_OnpFar.j0
      repeat' first
      | (with_reducible exact ih0 _ _ _ _)
      | (with_reducible exact onp_Far.mono _ _ _ _)
      | (with_reducible exact tattinglaw18_awake.mono _)
      | (with_reducible exact tattingref15_Far.mono _ _ _ _)
      | (with_reducible exact tattingref1_Few.mono _ _ _)
      | (with_reducible exact tattingref1_SameInts.mono _ _ _)
      | (with_reducible exact LeO.refl _)
      | (with_reducible exact LeO.none _)
      | (with_reducible refine LeO.ite ?_ ?_)
      | (with_reducible refine LeO.bind ?_ (fun _ => ?_))
      | exact ih0 _ _ _ _
      | exact onp_Far.mono _ _ _ _
      | exact tattinglaw18_awake.mono _
      | exact tattingref15_Far.mono _ _ _ _
      | exact tattingref1_Few.mono _ _ _
      | exact tattingref1_SameInts.mono _ _ _
      | exact LeO.none _
      | refine LeO.ite ?_ ?_
      | refine LeO.bind ?_ (fun _ => ?_)
theorem tattinglaw18_OnpFar.mono : ∀ a0 a1 a2 k, LeO (tattinglaw18_OnpFar.f k a0 a1 a2) (tattinglaw18_OnpFar.f (k + 1) a0 a1 a2) := by
  intro a0 a1 a2 k
  have ih0 := tattinglaw18_OnpFar.mono_l k
  unfold tattinglaw18_OnpFar.f
  repeat' first
      | (with_reducible exact ih0 _ _ _ _)
      | (with_reducible exact onp_Far.mono _ _ _ _)
      | (with_reducible exact tattinglaw18_awake.mono _)
      | (with_reducible exact tattingref15_Far.mono _ _ _ _)
      | (with_reducible exact tattingref1_Few.mono _ _ _)
      | (with_reducible exact tattingref1_SameInts.mono _ _ _)
      | (with_reducible exact LeO.refl _)
      | (with_reducible exact LeO.none _)
      | (with_reducible refine LeO.ite ?_ ?_)
      | (with_reducible refine LeO.bind ?_ (fun _ => ?_))
      | exact ih0 _ _ _ _
      | exact onp_Far.mono _ _ _ _
      | exact tattinglaw18_awake.mono _
      | exact tattingref15_Far.mono _ _ _ _
      | exact tattingref1_Few.mono _ _ _
      | exact tattingref1_SameInts.mono _ _ _
      | exact LeO.none _
      | refine LeO.ite ?_ ?_
      | refine LeO.bind ?_ (fun _ => ?_)
set_option maxHeartbeats 8000000 in
set_option maxRecDepth 100000 in
theorem tattinglaw18_OnpFar.calls (k : Nat) (A0 : Option Addr) (c0 : Nat) (l0 : List Int) (A1 : Option Addr) (c1 : Nat) (l1 : List Int) (a2 : Int) (r : Bool) (w : World) (hr0 : Kd.C (Kd.int .i64) w A0 l0.length l0) (hc0 : l0.length ≤ c0) (hr1 : Kd.C (Kd.int .i64) w A1 l1.length l1) (hc1 : l1.length ≤ c1) (h : tattinglaw18_OnpFar.f k l0 l1 a2 = some r) (hr_ : r = true) :
    Calls Try.prog 6 #[.slice A0 l0.length c0, .slice A1 l1.length c1, .int .i64 a2] w fun e w' => e = .returned (.bool r) ∧ Below w.heap.size w w' := by
  have HR0 := Aside0.mk hr0
  have HC0 := Aside0.mk hc0
  clear hr0 hc0
  have HR1 := Aside0.mk hr1
  have HC1 := Aside0.mk hc1
  clear hr1 hc1
  have HB := Aside0.mk (Below.refl w.heap.size w)
  have H : ((tattinglaw18_awake.f k).bind fun t234 => (if t234 = true then (if (l0.length : Int) > 25 then (tattinglaw18_OnpFar.j0 k l0 l1 a2 true) else (tattinglaw18_OnpFar.j0 k l0 l1 a2 (decide ((l1.length : Int) > 25)))) else (some false))) = some r := h
  clear h
  replace H := Option.bind_eq_some_iff.mp H
  obtain ⟨t234, A40, H⟩ := H
  replace H : (if t234 = true then (if (l0.length : Int) > 25 then (tattinglaw18_OnpFar.j0 k l0 l1 a2 true) else (tattinglaw18_OnpFar.j0 k l0 l1 a2 (decide ((l1.length : Int) > 25)))) else (some false)) = some r := H
  have A4 := Aside0.mk A40
  clear A40
  by_cases c5 : t234 = true
  · subst c5
    have H1 : (if (l0.length : Int) > 25 then (tattinglaw18_OnpFar.j0 k l0 l1 a2 true) else (tattinglaw18_OnpFar.j0 k l0 l1 a2 (decide ((l1.length : Int) > 25)))) = some r := by rw [if_pos rfl] at H; exact H
    clear H
    have H := H1
    clear H1
    have HC6 := Aside0.mk H
    clear H
    go_enter Try.func6, Try.ntmps6
    go_upto_region 3 with (first | ((first | (with_reducible refine gate_callee (f := 11) rfl ?_); refine goesL_ (some 9) rfl rfl Try.func11 (by kernel_rfl) rfl #[] rfl (by (try simp only [List.map_toArray, List.map_cons, List.map_nil]); first | done | rfl | (simp only [List.length_drop, List.length_take]; rfl)) ?_ | go_at_call 11); (with_reducible refine (tattinglaw18_awake.calls k  true _ A4.out rfl).mono ?_); rintro e w7 ⟨rfl, hb⟩; (try refine ⟨_, rfl, ?_⟩); have n0_ := Aside0.mk (below_step (by repeat (first | (with_reducible first | exact HB.out | apply below_alloc | apply pw_below_drewN | apply below_drew1) | exact HB.out)) hb); clear HB; have HB := n0_; clear n0_; (try clear hb); (try clear hb2); (try clear hk); (try clear hi)))
    (try simp only [Act.put, List.setIfInBounds_toArray, List.set_cons_zero, List.set_cons_succ])
    go_cut [18] (fun v18 wc => ∃ (kq : Nat) (x18_5 : Bool), v18 = .bool x18_5 ∧ Aside0 (tattinglaw18_OnpFar.j0 kq l0 l1 a2 x18_5 = some r) ∧ Aside0 (kq ≤ k) ∧ Aside0 (Below w.heap.size w wc))
    case first =>
      have H := HC6.out
      clear HC6
      by_cases c8 : (l0.length : Int) > 25
      · rw [if_pos c8] at H
        have c8b0 : decide (25 < (l0.length : Int)) = true := decide_eq_true c8
        have c8b1 : decide (25 < l0.length) = true := decide_eq_true (by omega)
        clear c8
        (first | rw [c8b0] | (simp only [i64_w, i32_w]; rw [c8b0]) | skip)
        have H' := Aside0.mk H
        clear H
        go_wp2
        go_meet
        case rel => exact ⟨_, (true), (by first | rfl | (simp; done) | (simp [*]; done)), H', ⟨by first | omega | exact Nat.le_refl _⟩, ⟨by repeat (first | (with_reducible first | exact HB.out | apply below_alloc | apply pw_below_drewN | apply below_drew1) | exact HB.out)⟩⟩
      · rw [if_neg c8] at H
        have c8b0 : decide (25 < (l0.length : Int)) = false := decide_eq_false c8
        have c8b1 : decide (25 < l0.length) = false := decide_eq_false (by omega)
        clear c8
        (first | rw [c8b0] | (simp only [i64_w, i32_w]; rw [c8b0]) | skip)
        have H' := Aside0.mk H
        clear H
        go_wp2
        go_meet
        case rel => exact ⟨_, (decide ((l1.length : Int) > 25)), (by first | rfl | (simp; done) | (simp [*]; done)), H', ⟨by first | omega | exact Nat.le_refl _⟩, ⟨by repeat (first | (with_reducible first | exact HB.out | apply below_alloc | apply pw_below_drewN | apply below_drew1) | exact HB.out)⟩⟩
    case rest =>
      clear HC6
      try clear c1
      try clear p2
      try clear c5
      try clear c6
      try clear c8
      try clear c8b0
      try clear c8b1
      obtain ⟨kq, x18_5, rfl, HA, HJ5, HB⟩ := hcut
      cases kq with
      | zero => exact absurd HA.out (by simp [tattinglaw18_OnpFar.j0])
      | succ kj5 =>
        have H := HA.out
        clear HA
        simp only [tattinglaw18_OnpFar.j0] at H
        by_cases c9 : x18_5 = true
        · subst c9
          have H1 : (some true) = some r := by rw [if_pos rfl] at H; exact H
          clear H
          have H := H1
          clear H1
          obtain rfl := Option.some.inj H
          go_wp2
          go_ret
          exact ⟨by first | rfl | (simp [errW_none, errW_some] <;> rfl) | (simp [*, errW_none, errW_some] <;> rfl), by repeat (first | (with_reducible first | exact HB.out | apply below_alloc | apply pw_below_drewN | apply below_drew1) | exact HB.out)⟩
        · replace c9 := Bool.eq_false_iff.mpr c9
          subst c9
          have H1 : ((tattingref1_Few.f kj5 l0 3).bind fun t235 => ((tattingref1_Few.f kj5 l1 3).bind fun t238 => ((onp_Far.f kj5 t235 t238 a2).bind fun t241 => ((tattingref15_Far.f kj5 t235 t238 a2).bind fun t244 => ((tattingref1_SameInts.f kj5 t241 t244).bind fun t247 => (if t247 = true then ((onp_Far.f kj5 t235 t238 (wrap64 (Int.tmod (IntKind.u64.wrap (a2)) 6))).bind fun t248 => ((tattingref15_Far.f kj5 t235 t238 (wrap64 (Int.tmod (IntKind.u64.wrap (a2)) 6))).bind fun t251 => ((tattingref1_SameInts.f kj5 t248 t251).bind fun t254 => (some t254)))) else (some false))))))) = some r := by rw [if_neg (show ¬ (false = true) by decide)] at H; exact H
          clear H
          have H := H1
          clear H1
          replace H := Option.bind_eq_some_iff.mp H
          obtain ⟨t235, A100, H⟩ := H
          replace H : ((tattingref1_Few.f kj5 l1 3).bind fun t238 => ((onp_Far.f kj5 t235 t238 a2).bind fun t241 => ((tattingref15_Far.f kj5 t235 t238 a2).bind fun t244 => ((tattingref1_SameInts.f kj5 t241 t244).bind fun t247 => (if t247 = true then ((onp_Far.f kj5 t235 t238 (wrap64 (Int.tmod (IntKind.u64.wrap (a2)) 6))).bind fun t248 => ((tattingref15_Far.f kj5 t235 t238 (wrap64 (Int.tmod (IntKind.u64.wrap (a2)) 6))).bind fun t251 => ((tattingref1_SameInts.f kj5 t248 t251).bind fun t254 => (some t254)))) else (some false)))))) = some r := H
          have A10 := Aside0.mk A100
          clear A100
          replace H := Option.bind_eq_some_iff.mp H
          obtain ⟨t238, A110, H⟩ := H
          replace H : ((onp_Far.f kj5 t235 t238 a2).bind fun t241 => ((tattingref15_Far.f kj5 t235 t238 a2).bind fun t244 => ((tattingref1_SameInts.f kj5 t241 t244).bind fun t247 => (if t247 = true then ((onp_Far.f kj5 t235 t238 (wrap64 (Int.tmod (IntKind.u64.wrap (a2)) 6))).bind fun t248 => ((tattingref15_Far.f kj5 t235 t238 (wrap64 (Int.tmod (IntKind.u64.wrap (a2)) 6))).bind fun t251 => ((tattingref1_SameInts.f kj5 t248 t251).bind fun t254 => (some t254)))) else (some false))))) = some r := H
          have A11 := Aside0.mk A110
          clear A110
          replace H := Option.bind_eq_some_iff.mp H
          obtain ⟨t241, A120, H⟩ := H
          replace H : ((tattingref15_Far.f kj5 t235 t238 a2).bind fun t244 => ((tattingref1_SameInts.f kj5 t241 t244).bind fun t247 => (if t247 = true then ((onp_Far.f kj5 t235 t238 (wrap64 (Int.tmod (IntKind.u64.wrap (a2)) 6))).bind fun t248 => ((tattingref15_Far.f kj5 t235 t238 (wrap64 (Int.tmod (IntKind.u64.wrap (a2)) 6))).bind fun t251 => ((tattingref1_SameInts.f kj5 t248 t251).bind fun t254 => (some t254)))) else (some false)))) = some r := H
          have A12 := Aside0.mk A120
          clear A120
          replace H := Option.bind_eq_some_iff.mp H
          obtain ⟨t244, A130, H⟩ := H
          replace H : ((tattingref1_SameInts.f kj5 t241 t244).bind fun t247 => (if t247 = true then ((onp_Far.f kj5 t235 t238 (wrap64 (Int.tmod (IntKind.u64.wrap (a2)) 6))).bind fun t248 => ((tattingref15_Far.f kj5 t235 t238 (wrap64 (Int.tmod (IntKind.u64.wrap (a2)) 6))).bind fun t251 => ((tattingref1_SameInts.f kj5 t248 t251).bind fun t254 => (some t254)))) else (some false))) = some r := H
          have A13 := Aside0.mk A130
          clear A130
          replace H := Option.bind_eq_some_iff.mp H
          obtain ⟨t247, A140, H⟩ := H
          replace H : (if t247 = true then ((onp_Far.f kj5 t235 t238 (wrap64 (Int.tmod (IntKind.u64.wrap (a2)) 6))).bind fun t248 => ((tattingref15_Far.f kj5 t235 t238 (wrap64 (Int.tmod (IntKind.u64.wrap (a2)) 6))).bind fun t251 => ((tattingref1_SameInts.f kj5 t248 t251).bind fun t254 => (some t254)))) else (some false)) = some r := H
          have A14 := Aside0.mk A140
          clear A140
          by_cases c15 : t247 = true
          · subst c15
            have H1 : ((onp_Far.f kj5 t235 t238 (wrap64 (Int.tmod (IntKind.u64.wrap (a2)) 6))).bind fun t248 => ((tattingref15_Far.f kj5 t235 t238 (wrap64 (Int.tmod (IntKind.u64.wrap (a2)) 6))).bind fun t251 => ((tattingref1_SameInts.f kj5 t248 t251).bind fun t254 => (some t254)))) = some r := by rw [if_pos rfl] at H; exact H
            clear H
            have H := H1
            clear H1
            replace H := Option.bind_eq_some_iff.mp H
            obtain ⟨t248, A160, H⟩ := H
            replace H : ((tattingref15_Far.f kj5 t235 t238 (wrap64 (Int.tmod (IntKind.u64.wrap (a2)) 6))).bind fun t251 => ((tattingref1_SameInts.f kj5 t248 t251).bind fun t254 => (some t254))) = some r := H
            have A16 := Aside0.mk A160
            clear A160
            replace H := Option.bind_eq_some_iff.mp H
            obtain ⟨t251, A170, H⟩ := H
            replace H : ((tattingref1_SameInts.f kj5 t248 t251).bind fun t254 => (some t254)) = some r := H
            have A17 := Aside0.mk A170
            clear A170
            replace H := Option.bind_eq_some_iff.mp H
            obtain ⟨t254, A180, H⟩ := H
            replace H : (some t254) = some r := H
            have A18 := Aside0.mk A180
            clear A180
            obtain rfl := Option.some.inj H
            go_wp2_with (first | ((first | (with_reducible refine gate_callee (f := 16) rfl ?_); refine goesL_ (some 20) rfl rfl Try.func16 (by kernel_rfl) rfl #[.slice A0 l0.length c0, .int .i64 3] rfl (by (try simp only [List.map_toArray, List.map_cons, List.map_nil]); first | done | rfl | (simp only [List.length_drop, List.length_take]; rfl)) ?_ | go_at_call 16); (with_reducible refine (tattingref1_Few.calls kj5 _ _ l0 3 t235 _ ?side1 ?side2 A10.out).mono ?_); (case side1 => repeat (first | exact (Kd.C_below HR0.out HB.out) | (with_reducible refine Kd.C_alloc ?_ _) | (with_reducible refine Kd.C_drewN ?_ _) | (with_reducible refine Kd.C_drew ?_))); (case side2 => exact HC0.out); rintro e w19 ⟨v236, rfl, ho0, hb⟩; (try refine ⟨_, rfl, ?_⟩); have n0_ := Aside0.mk (Kd.R_lower ho0 (below_size (by repeat (first | (with_reducible first | exact HB.out | apply below_alloc | apply pw_below_drewN | apply below_drew1) | exact HB.out)))); have n1_ := Aside0.mk (below_step (by repeat (first | (with_reducible first | exact HB.out | apply below_alloc | apply pw_below_drewN | apply below_drew1) | exact HB.out)) hb); clear HB; have HO237 := n0_; have HB := n1_; clear n0_ n1_; (try clear hb); (try clear hb2); (try clear hk); (try clear hi); (try clear ho0)) | ((first | (with_reducible refine gate_callee (f := 16) rfl ?_); refine goesL_ (some 22) rfl rfl Try.func16 (by kernel_rfl) rfl #[.slice A1 l1.length c1, .int .i64 3] rfl (by (try simp only [List.map_toArray, List.map_cons, List.map_nil]); first | done | rfl | (simp only [List.length_drop, List.length_take]; rfl)) ?_ | go_at_call 16); (with_reducible refine (tattingref1_Few.calls kj5 _ _ l1 3 t238 _ ?side1 ?side2 A11.out).mono ?_); (case side1 => repeat (first | exact (Kd.C_below HR1.out HB.out) | (with_reducible refine Kd.C_alloc ?_ _) | (with_reducible refine Kd.C_drewN ?_ _) | (with_reducible refine Kd.C_drew ?_))); (case side2 => exact HC1.out); rintro e w20 ⟨v239, rfl, ho0, hb⟩; (try refine ⟨_, rfl, ?_⟩); have n0_ := Aside0.mk (Kd.R_elder' (by (with_reducible repeat (first | apply Kd.R_alloc | apply Kd.R_drewN | apply Kd.R_drew)); exact HO237.out) (Kd.R_base ho0) hb); have n1_ := Aside0.mk (Kd.R_lower (Kd.R_new' ho0 (Kd.R_lt (by (with_reducible repeat (first | apply Kd.R_alloc | apply Kd.R_drewN | apply Kd.R_drew)); exact HO237.out))) (below_size (by repeat (first | (with_reducible first | exact HB.out | apply below_alloc | apply pw_below_drewN | apply below_drew1) | exact HB.out)))); have n2_ := Aside0.mk (below_step (by repeat (first | (with_reducible first | exact HB.out | apply below_alloc | apply pw_below_drewN | apply below_drew1) | exact HB.out)) hb); clear HO237; clear HB; have HO237 := n0_; have HO240 := n1_; have HB := n2_; clear n0_ n1_ n2_; (try clear hb); (try clear hb2); (try clear hk); (try clear hi); (try clear ho0); obtain ⟨Ao21, co21, eo21⟩ := Kd.R_slice HO237.out; subst eo21; obtain ⟨Ao22, co22, eo22⟩ := Kd.R_slice HO240.out; subst eo22) | ((first | (with_reducible refine gate_callee (f := 10) rfl ?_); refine goesL_ (some 26) rfl rfl Try.func10 (by kernel_rfl) rfl #[.slice Ao21 t235.length co21, .slice Ao22 t238.length co22, .int .i64 a2] rfl (by (try simp only [List.map_toArray, List.map_cons, List.map_nil]); first | done | rfl | (simp only [List.length_drop, List.length_take]; rfl)) ?_ | go_at_call 10); (with_reducible refine (onp_Far.calls kj5 _ _ t235 _ _ t238 a2 t241 _ ?side1 ?side2 ?side3 ?side4 A12.out).mono ?_); (case side1 => repeat (first | exact (Kd.R_reads' HO237.out).2.2 | (with_reducible refine Kd.C_alloc ?_ _) | (with_reducible refine Kd.C_drewN ?_ _) | (with_reducible refine Kd.C_drew ?_))); (case side2 => exact (Kd.R_reads' HO237.out).2.1); (case side3 => repeat (first | exact (Kd.R_reads' HO240.out).2.2 | (with_reducible refine Kd.C_alloc ?_ _) | (with_reducible refine Kd.C_drewN ?_ _) | (with_reducible refine Kd.C_drew ?_))); (case side4 => exact (Kd.R_reads' HO240.out).2.1); rintro e w23 ⟨v242, rfl, ho0, hb⟩; (try refine ⟨_, rfl, ?_⟩); have n0_ := Aside0.mk (Kd.R_elder' (by (with_reducible repeat (first | apply Kd.R_alloc | apply Kd.R_drewN | apply Kd.R_drew)); exact HO237.out) (Kd.R_base ho0) hb); have n1_ := Aside0.mk (Kd.R_elder' (by (with_reducible repeat (first | apply Kd.R_alloc | apply Kd.R_drewN | apply Kd.R_drew)); exact HO240.out) (Kd.R_base ho0) hb); have n2_ := Aside0.mk (Kd.R_lower (Kd.R_new' (Kd.R_new' ho0 (Kd.R_lt (by (with_reducible repeat (first | apply Kd.R_alloc | apply Kd.R_drewN | apply Kd.R_drew)); exact HO237.out))) (Kd.R_lt (by (with_reducible repeat (first | apply Kd.R_alloc | apply Kd.R_drewN | apply Kd.R_drew)); exact HO240.out))) (below_size (by repeat (first | (with_reducible first | exact HB.out | apply below_alloc | apply pw_below_drewN | apply below_drew1) | exact HB.out)))); have n3_ := Aside0.mk (below_step (by repeat (first | (with_reducible first | exact HB.out | apply below_alloc | apply pw_below_drewN | apply below_drew1) | exact HB.out)) hb); clear HO237; clear HO240; clear HB; have HO237 := n0_; have HO240 := n1_; have HO243 := n2_; have HB := n3_; clear n0_ n1_ n2_ n3_; (try clear hb); (try clear hb2); (try clear hk); (try clear hi); (try clear ho0)) | ((first | (with_reducible refine gate_callee (f := 20) rfl ?_); refine goesL_ (some 30) rfl rfl Try.func20 (by kernel_rfl) rfl #[.slice Ao21 t235.length co21, .slice Ao22 t238.length co22, .int .i64 a2] rfl (by (try simp only [List.map_toArray, List.map_cons, List.map_nil]); first | done | rfl | (simp only [List.length_drop, List.length_take]; rfl)) ?_ | go_at_call 20); (with_reducible refine (tattingref15_Far.calls kj5 _ _ t235 _ _ t238 a2 t244 _ ?side1 ?side2 ?side3 ?side4 A13.out).mono ?_); (case side1 => repeat (first | exact (Kd.R_reads' HO237.out).2.2 | (with_reducible refine Kd.C_alloc ?_ _) | (with_reducible refine Kd.C_drewN ?_ _) | (with_reducible refine Kd.C_drew ?_))); (case side2 => exact (Kd.R_reads' HO237.out).2.1); (case side3 => repeat (first | exact (Kd.R_reads' HO240.out).2.2 | (with_reducible refine Kd.C_alloc ?_ _) | (with_reducible refine Kd.C_drewN ?_ _) | (with_reducible refine Kd.C_drew ?_))); (case side4 => exact (Kd.R_reads' HO240.out).2.1); rintro e w24 ⟨v245, rfl, ho0, hb⟩; (try refine ⟨_, rfl, ?_⟩); have n0_ := Aside0.mk (Kd.R_elder' (by (with_reducible repeat (first | apply Kd.R_alloc | apply Kd.R_drewN | apply Kd.R_drew)); exact HO237.out) (Kd.R_base ho0) hb); have n1_ := Aside0.mk (Kd.R_elder' (by (with_reducible repeat (first | apply Kd.R_alloc | apply Kd.R_drewN | apply Kd.R_drew)); exact HO240.out) (Kd.R_base ho0) hb); have n2_ := Aside0.mk (Kd.R_elder' (by (with_reducible repeat (first | apply Kd.R_alloc | apply Kd.R_drewN | apply Kd.R_drew)); exact HO243.out) (Kd.R_base ho0) hb); have n3_ := Aside0.mk (Kd.R_lower (Kd.R_new' (Kd.R_new' (Kd.R_new' ho0 (Kd.R_lt (by (with_reducible repeat (first | apply Kd.R_alloc | apply Kd.R_drewN | apply Kd.R_drew)); exact HO237.out))) (Kd.R_lt (by (with_reducible repeat (first | apply Kd.R_alloc | apply Kd.R_drewN | apply Kd.R_drew)); exact HO240.out))) (Kd.R_lt (by (with_reducible repeat (first | apply Kd.R_alloc | apply Kd.R_drewN | apply Kd.R_drew)); exact HO243.out))) (below_size (by repeat (first | (with_reducible first | exact HB.out | apply below_alloc | apply pw_below_drewN | apply below_drew1) | exact HB.out)))); have n4_ := Aside0.mk (below_step (by repeat (first | (with_reducible first | exact HB.out | apply below_alloc | apply pw_below_drewN | apply below_drew1) | exact HB.out)) hb); clear HO237; clear HO240; clear HO243; clear HB; have HO237 := n0_; have HO240 := n1_; have HO243 := n2_; have HO246 := n3_; have HB := n4_; clear n0_ n1_ n2_ n3_ n4_; (try clear hb); (try clear hb2); (try clear hk); (try clear hi); (try clear ho0); obtain ⟨Ao25, co25, eo25⟩ := Kd.R_slice HO243.out; subst eo25; obtain ⟨Ao26, co26, eo26⟩ := Kd.R_slice HO246.out; subst eo26) | ((first | (with_reducible refine gate_callee (f := 12) rfl ?_); refine goesL_ (some 31) rfl rfl Try.func12 (by kernel_rfl) rfl #[.slice Ao25 t241.length co25, .slice Ao26 t244.length co26] rfl (by (try simp only [List.map_toArray, List.map_cons, List.map_nil]); first | done | rfl | (simp only [List.length_drop, List.length_take]; rfl)) ?_ | go_at_call 12); (with_reducible refine (tattingref1_SameInts.calls kj5 _ _ t241 _ _ t244 true _ ?side1 ?side2 ?side3 ?side4 A14.out).mono ?_); (case side1 => repeat (first | exact (Kd.R_reads' HO243.out).2.2 | (with_reducible refine Kd.C_alloc ?_ _) | (with_reducible refine Kd.C_drewN ?_ _) | (with_reducible refine Kd.C_drew ?_))); (case side2 => exact (Kd.R_reads' HO243.out).2.1); (case side3 => repeat (first | exact (Kd.R_reads' HO246.out).2.2 | (with_reducible refine Kd.C_alloc ?_ _) | (with_reducible refine Kd.C_drewN ?_ _) | (with_reducible refine Kd.C_drew ?_))); (case side4 => exact (Kd.R_reads' HO246.out).2.1); rintro e w' ⟨rfl, ⟨nd, rfl⟩⟩; (try refine ⟨_, rfl, ?_⟩)) | (go_at_call 10; (with_reducible refine (onp_Far.calls kj5 _ _ t235 _ _ t238 (wrap64 (Int.tmod (IntKind.u64.wrap (a2)) 6)) t248 _ ?side1 ?side2 ?side3 ?side4 A16.out).mono ?_); (case side1 => repeat (first | exact (Kd.R_reads' HO237.out).2.2 | (with_reducible refine Kd.C_alloc ?_ _) | (with_reducible refine Kd.C_drewN ?_ _) | (with_reducible refine Kd.C_drew ?_))); (case side2 => exact (Kd.R_reads' HO237.out).2.1); (case side3 => repeat (first | exact (Kd.R_reads' HO240.out).2.2 | (with_reducible refine Kd.C_alloc ?_ _) | (with_reducible refine Kd.C_drewN ?_ _) | (with_reducible refine Kd.C_drew ?_))); (case side4 => exact (Kd.R_reads' HO240.out).2.1); rintro e w27 ⟨v249, rfl, ho0, hb⟩; have n0_ := Aside0.mk (Kd.R_elder' (by (with_reducible repeat (first | apply Kd.R_alloc | apply Kd.R_drewN | apply Kd.R_drew)); exact HO237.out) (Kd.R_base ho0) hb); have n1_ := Aside0.mk (Kd.R_elder' (by (with_reducible repeat (first | apply Kd.R_alloc | apply Kd.R_drewN | apply Kd.R_drew)); exact HO240.out) (Kd.R_base ho0) hb); have n2_ := Aside0.mk (Kd.R_elder' (by (with_reducible repeat (first | apply Kd.R_alloc | apply Kd.R_drewN | apply Kd.R_drew)); exact HO243.out) (Kd.R_base ho0) hb); have n3_ := Aside0.mk (Kd.R_elder' (by (with_reducible repeat (first | apply Kd.R_alloc | apply Kd.R_drewN | apply Kd.R_drew)); exact HO246.out) (Kd.R_base ho0) hb); have n4_ := Aside0.mk (Kd.R_lower (Kd.R_new' (Kd.R_new' (Kd.R_new' (Kd.R_new' ho0 (Kd.R_lt (by (with_reducible repeat (first | apply Kd.R_alloc | apply Kd.R_drewN | apply Kd.R_drew)); exact HO237.out))) (Kd.R_lt (by (with_reducible repeat (first | apply Kd.R_alloc | apply Kd.R_drewN | apply Kd.R_drew)); exact HO240.out))) (Kd.R_lt (by (with_reducible repeat (first | apply Kd.R_alloc | apply Kd.R_drewN | apply Kd.R_drew)); exact HO243.out))) (Kd.R_lt (by (with_reducible repeat (first | apply Kd.R_alloc | apply Kd.R_drewN | apply Kd.R_drew)); exact HO246.out))) (below_size (by repeat (first | (with_reducible first | exact HB.out | apply below_alloc | apply pw_below_drewN | apply below_drew1) | exact HB.out)))); have n5_ := Aside0.mk (below_step (by repeat (first | (with_reducible first | exact HB.out | apply below_alloc | apply pw_below_drewN | apply below_drew1) | exact HB.out)) hb); clear HO237; clear HO240; clear HO243; clear HO246; clear HB; have HO237 := n0_; have HO240 := n1_; have HO243 := n2_; have HO246 := n3_; have HO250 := n4_; have HB := n5_; clear n0_ n1_ n2_ n3_ n4_ n5_; (try clear hb); (try clear hb2); (try clear hk); (try clear hi); (try clear ho0)) | (go_at_call 20; (with_reducible refine (tattingref15_Far.calls kj5 _ _ t235 _ _ t238 (wrap64 (Int.tmod (IntKind.u64.wrap (a2)) 6)) t251 _ ?side1 ?side2 ?side3 ?side4 A17.out).mono ?_); (case side1 => repeat (first | exact (Kd.R_reads' HO237.out).2.2 | (with_reducible refine Kd.C_alloc ?_ _) | (with_reducible refine Kd.C_drewN ?_ _) | (with_reducible refine Kd.C_drew ?_))); (case side2 => exact (Kd.R_reads' HO237.out).2.1); (case side3 => repeat (first | exact (Kd.R_reads' HO240.out).2.2 | (with_reducible refine Kd.C_alloc ?_ _) | (with_reducible refine Kd.C_drewN ?_ _) | (with_reducible refine Kd.C_drew ?_))); (case side4 => exact (Kd.R_reads' HO240.out).2.1); rintro e w28 ⟨v252, rfl, ho0, hb⟩; have n0_ := Aside0.mk (Kd.R_elder' (by (with_reducible repeat (first | apply Kd.R_alloc | apply Kd.R_drewN | apply Kd.R_drew)); exact HO237.out) (Kd.R_base ho0) hb); have n1_ := Aside0.mk (Kd.R_elder' (by (with_reducible repeat (first | apply Kd.R_alloc | apply Kd.R_drewN | apply Kd.R_drew)); exact HO240.out) (Kd.R_base ho0) hb); have n2_ := Aside0.mk (Kd.R_elder' (by (with_reducible repeat (first | apply Kd.R_alloc | apply Kd.R_drewN | apply Kd.R_drew)); exact HO243.out) (Kd.R_base ho0) hb); have n3_ := Aside0.mk (Kd.R_elder' (by (with_reducible repeat (first | apply Kd.R_alloc | apply Kd.R_drewN | apply Kd.R_drew)); exact HO246.out) (Kd.R_base ho0) hb); have n4_ := Aside0.mk (Kd.R_elder' (by (with_reducible repeat (first | apply Kd.R_alloc | apply Kd.R_drewN | apply Kd.R_drew)); exact HO250.out) (Kd.R_base ho0) hb); have n5_ := Aside0.mk (Kd.R_lower (Kd.R_new' (Kd.R_new' (Kd.R_new' (Kd.R_new' (Kd.R_new' ho0 (Kd.R_lt (by (with_reducible repeat (first | apply Kd.R_alloc | apply Kd.R_drewN | apply Kd.R_drew)); exact HO237.out))) (Kd.R_lt (by (with_reducible repeat (first | apply Kd.R_alloc | apply Kd.R_drewN | apply Kd.R_drew)); exact HO240.out))) (Kd.R_lt (by (with_reducible repeat (first | apply Kd.R_alloc | apply Kd.R_drewN | apply Kd.R_drew)); exact HO243.out))) (Kd.R_lt (by (with_reducible repeat (first | apply Kd.R_alloc | apply Kd.R_drewN | apply Kd.R_drew)); exact HO246.out))) (Kd.R_lt (by (with_reducible repeat (first | apply Kd.R_alloc | apply Kd.R_drewN | apply Kd.R_drew)); exact HO250.out))) (below_size (by repeat (first | (with_reducible first | exact HB.out | apply below_alloc | apply pw_below_drewN | apply below_drew1) | exact HB.out)))); have n6_ := Aside0.mk (below_step (by repeat (first | (with_reducible first | exact HB.out | apply below_alloc | apply pw_below_drewN | apply below_drew1) | exact HB.out)) hb); clear HO237; clear HO240; clear HO243; clear HO246; clear HO250; clear HB; have HO237 := n0_; have HO240 := n1_; have HO243 := n2_; have HO246 := n3_; have HO250 := n4_; have HO253 := n5_; have HB := n6_; clear n0_ n1_ n2_ n3_ n4_ n5_ n6_; (try clear hb); (try clear hb2); (try clear hk); (try clear hi); (try clear ho0); obtain ⟨Ao29, co29, eo29⟩ := Kd.R_slice HO250.out; subst eo29; obtain ⟨Ao30, co30, eo30⟩ := Kd.R_slice HO253.out; subst eo30) | (go_at_call 12; (with_reducible refine (tattingref1_SameInts.calls kj5 _ _ t248 _ _ t251 t254 _ ?side1 ?side2 ?side3 ?side4 A18.out).mono ?_); (case side1 => repeat (first | exact (Kd.R_reads' HO250.out).2.2 | (with_reducible refine Kd.C_alloc ?_ _) | (with_reducible refine Kd.C_drewN ?_ _) | (with_reducible refine Kd.C_drew ?_))); (case side2 => exact (Kd.R_reads' HO250.out).2.1); (case side3 => repeat (first | exact (Kd.R_reads' HO253.out).2.2 | (with_reducible refine Kd.C_alloc ?_ _) | (with_reducible refine Kd.C_drewN ?_ _) | (with_reducible refine Kd.C_drew ?_))); (case side4 => exact (Kd.R_reads' HO253.out).2.1); rintro e w' ⟨rfl, ⟨nd, rfl⟩⟩))
            go_ret
            exact ⟨by first | rfl | (simp [errW_none, errW_some] <;> rfl) | (simp [*, errW_none, errW_some] <;> rfl), by repeat (first | (with_reducible first | exact HB.out | apply below_alloc | apply pw_below_drewN | apply below_drew1) | exact HB.out)⟩
          · replace c15 := Bool.eq_false_iff.mpr c15
            subst c15
            have H1 : (some false) = some r := by rw [if_neg (show ¬ (false = true) by decide)] at H; exact H
            clear H
            have H := H1
            clear H1
            exact absurd (Option.some.inj H) (by rw [hr_]; decide)
  · replace c5 := Bool.eq_false_iff.mpr c5
    subst c5
    have H1 : (some false) = some r := by rw [if_neg (show ¬ (false = true) by decide)] at H; exact H
    clear H
    have H := H1
    clear H1
    exact absurd (Option.some.inj H) (by rw [hr_]; decide)

/-- THE ONE PURE STATEMENT of tattinglaw18_OnpFar: yours. -/
def tattinglaw18_OnpFar.Pure : Prop := ∀ (l0 : List Int) (l1 : List Int) (a2 : Int), l0.length ≤ maxLen → l0.length * 8 ≤ 140737488351232 → (∀ x ∈ l0, (Lit.int .i64 x).wf = true) → l1.length ≤ maxLen → l1.length * 8 ≤ 140737488351232 → (∀ x ∈ l1, (Lit.int .i64 x).wf = true) → (Lit.int .i64 a2).wf = true → ∃ k, tattinglaw18_OnpFar.f k l0 l1 a2 = some true
theorem tattinglaw18_OnpFar.walk (P : tattinglaw18_OnpFar.Pure) (a0 : Option Addr) (len0 cap0 : Nat) (z0 : List Int) (a1 : Option Addr) (len1 cap1 : Nat) (z1 : List Int) (a2 : Int) (w : World) (w0 : (a0 = none ∧ len0 = 0 ∧ cap0 = 0 ∧ z0 = []) ∨ ∃ x, a0 = some x ∧ len0 ≤ cap0 ∧ cap0 ≤ maxLen ∧ z0.length = cap0 ∧ (∀ i, i < z0.length → w.cell? (x.add i) = some (.int .i64 (z0.getD i 0))) ∧ ∀ n ∈ z0, (Lit.int .i64 n).wf = true) (y0 : len0 * 8 ≤ 140737488351232) (w1 : (a1 = none ∧ len1 = 0 ∧ cap1 = 0 ∧ z1 = []) ∨ ∃ x, a1 = some x ∧ len1 ≤ cap1 ∧ cap1 ≤ maxLen ∧ z1.length = cap1 ∧ (∀ i, i < z1.length → w.cell? (x.add i) = some (.int .i64 (z1.getD i 0))) ∧ ∀ n ∈ z1, (Lit.int .i64 n).wf = true) (y1 : len1 * 8 ≤ 140737488351232) (w2 : (Lit.int .i64 a2).wf = true) :
    Calls Try.prog 6 #[.slice a0 len0 cap0, .slice a1 len1 cap1, .int .i64 a2] w fun e w' => e = .returned (.bool true) ∧ Below w.heap.size w w' := by
  obtain ⟨l0, rfl, hr0, hm0, hw0, hc0⟩ := ReadsInt.ofRowC w0
  obtain ⟨l1, rfl, hr1, hm1, hw1, hc1⟩ := ReadsInt.ofRowC w1
  obtain ⟨k, h⟩ := P l0 l1 a2 hm0 y0 hw0 hm1 y1 hw1 w2
  refine (tattinglaw18_OnpFar.calls k _ _ l0 _ _ l1 a2 true w (Kd.C_of_reads (d := (0 : Int)) (h1 := fun _ => rfl) hr0) hc0 (Kd.C_of_reads (d := (0 : Int)) (h1 := fun _ => rfl) hr1) hc1 h rfl).mono ?_
  rintro e w' ⟨rfl, hd⟩
  exact ⟨rfl, hd⟩

end Go.Proofs.Yteijoilcffhomaa.POnpFar
