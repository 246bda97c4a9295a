/- What the given program's functions come to, each a Lean function and the walk that shows it: no condition beside those that each theorem names. -/
import Derived.Test.YteijoilcffhomaaPOnpFarx0
import Derived.Test.YteijoilcffhomaaPOnpFarx2
namespace Go.Proofs.Yteijoilcffhomaa.POnpFar
open Go.RowKit Go.Proofs.YteijoilcffhomaaW.PrintWords Go.Proofs.YteijoilcffhomaaW.PrintLast Go.Proofs.YteijoilcffhomaaW.PrintMore
attribute [local go_sem] max2_int min2_int max_two min_two max_three min_three max_four min_four   -- for this text's walks alone
set_option linter.unusedVariables false
set_option linter.unusedSimpArgs false

/-! ### onp_Far: function 10, by hand -/
theorem info3_ : (Try.prog.info? 3).map (fun i => (i.zero, i.size, i.bytes)) = some (some (.int .i64 0), 1, 8) := by kernel_rfl
def onp_Far.g (x y : List Int) (p : Int) : Option (List Int) := if p < 0 then some [] else if (x.length : Int) < p then some [] else some ((pr x y (p.toNat + 1)).2.map fun r => r.1)
def onp_Far.f (k : Nat) (l0 l1 : List Int) (p : Int) : Option (List Int) := if l0.length ≤ 1000000 ∧ l1.length ≤ 1000000 then (if l1.length < l0.length then onp_Far.g l1 l0 p else onp_Far.g l0 l1 p) else none
theorem onp_Far.mono : ∀ a0 a1 a2 k, LeO (onp_Far.f k a0 a1 a2) (onp_Far.f (k + 1) a0 a1 a2) := fun _ _ _ _ => LeO.refl _
theorem RowAt.elem {w : World} {g : Nat} {L : List Rch} (h : RowAt w (some ⟨g, 0, none⟩) L) {i : Nat} (hi : i < L.length) : ∃ q, w.cell? ⟨g, i * 2, none⟩ = some (.int .i64 (L[i]).1) ∧ w.cell? ⟨g, i * 2 + 1, none⟩ = some (.pointer q) := by
  rcases h with rfl | ⟨g', arr, e, hg, hs, hr⟩
  · simp at hi
  · obtain rfl : g = g' := by injection e with e; injection e
    obtain ⟨q, h1, h2, h3⟩ := hr i _ (List.getElem?_eq_getElem hi)
    exact ⟨q, (blk_cell hg _).trans h1, (blk_cell hg _).trans h2⟩
theorem RowAt.form {w : World} {A : Option Addr} {L : List Rch} (h : RowAt w A L) (hl : 0 < L.length) : ∃ g, A = some ⟨g, 0, none⟩ := by
  rcases h with rfl | ⟨g', arr, e, hg, hs, hr⟩
  · simp at hl
  · exact ⟨g', e⟩
theorem map_take_succ {L : List Rch} {i : Nat} (hi : i < L.length) : (L.take (i + 1)).map (fun r => r.1) = (L.take i).map (fun r => r.1) ++ [(L[i]).1] := by
  rw [List.take_succ_eq_append_getElem hi, List.map_append]; rfl
theorem RowAt.grown {w W : World} {A : Option Addr} {L : List Rch} (h : RowAt w A L) {row : Option Nat} (hg : w.grownBy W row) {t : Nat} (ht : ∀ k, row = some k → ∃ cells, w.heap[k]? = some (.cells cells t (0, 0))) (h1 : t ≠ 49) (h2 : t ≠ 51) : RowAt W A L := by
  have f : ∀ {g t' : Nat} {cs : Array Value}, w.heap[g]? = some (.cells cs t' (0, 0)) → t ≠ t' → W.heap[g]? = some (.cells cs t' (0, 0)) := fun hk ht' => blk_grown hk hg (fun e => by obtain ⟨cells, hc⟩ := ht _ e.symm; exact blk_ne hk hc (Ne.symm ht') rfl)
  rcases h with h | ⟨g', arr, e, hr, hs, hrow⟩
  · exact .inl h
  · refine .inr ⟨g', arr, e, f hr h1, hs, fun j r hj => ?_⟩
    obtain ⟨q, a1, a2, a3⟩ := hrow j r hj
    exact ⟨q, a1, a2, Way.move (fun _ _ hk => f hk h2) a3⟩
set_option maxHeartbeats 8000000 in
set_option maxRecDepth 100000 in
theorem onp_Far.calls (k : Nat) (A0 : Option Addr) (c0 : Nat) (l0 : List Int) (A1 : Option Addr) (c1 : Nat) (l1 : List Int) (a2 : Int) (r : List Int) (w : World) (hr0 : Kd.C (Kd.int .i64) w A0 l0.length l0) (hc0 : l0.length ≤ c0) (hr1 : Kd.C (Kd.int .i64) w A1 l1.length l1) (hc1 : l1.length ≤ c1) (h : onp_Far.f k l0 l1 a2 = some r) :
    Calls Try.prog 10 #[.slice A0 l0.length c0, .slice A1 l1.length c1, .int .i64 a2] w fun e w' => ∃ v0_ : Value, e = .returned (v0_) ∧ Kd.R (Kd.int .i64) 3 w' w.heap.size (fun _ => True) v0_ r ∧ Below w.heap.size w w' := by
  have hu46 := Try.underlying46
  have hu49 := Try.underlying49
  unfold onp_Far.f at h
  by_cases hl : l0.length ≤ 1000000 ∧ l1.length ≤ 1000000
  · rw [if_pos hl] at h
    obtain ⟨hl0, hl1⟩ := hl
    have HR0 := Aside0.mk hr0
    have HR1 := Aside0.mk hr1
    have HC0 := Aside0.mk hc0
    have HC1 := Aside0.mk hc1
    have HB := Aside0.mk (Below.refl w.heap.size w)
    clear hr0 hr1 hc0 hc1
    by_cases hlt : l1.length < l0.length
    · rw [if_pos hlt] at h
      have H := Aside0.mk h
      clear h
      go_enter Try.func10, Try.ntmps10
      go_upto_region 2 with (first
        | (go_at_call 22; ((with_reducible refine (onp_ord.gt _ _ _ _ _ _ _ hlt).mono ?_); rintro e w2 ⟨rfl, hb⟩; have n0_ := Aside0.mk (below_step HB.out hb.below); clear HB hb; have HB := n0_; clear n0_)))
      have HXR := HR1
      have HYR := HR0
      have HXC := HC1
      have HYC := HC0
      have hxy : l1.length ≤ l0.length := Nat.le_of_lt hlt
      have hyl := hl0
      clear HR0 HR1 HC0 HC1 hlt hl0 hl1
      have h := H.out
      clear H
      unfold onp_Far.g at h
      by_cases hp0 : a2 < 0
      · rw [if_pos hp0] at h
        obtain rfl := Option.some.inj h
        have d0 : decide (a2 < 0) = true := decide_eq_true hp0
        go_wp2
        go_ret
        exact ⟨_, rfl, Kd.R_nil _ _ _ _ _, HB.out⟩
      · rw [if_neg hp0] at h
        have d0 : decide (a2 < 0) = false := decide_eq_false hp0
        by_cases hp1 : (l1.length : Int) < a2
        · rw [if_pos hp1] at h
          obtain rfl := Option.some.inj h
          have d1 : decide ((l1.length : Int) < a2) = true := decide_eq_true hp1
          go_wp2
          go_ret
          exact ⟨_, rfl, Kd.R_nil _ _ _ _ _, HB.out⟩
        · rw [if_neg hp1] at h
          have d1 : decide ((l1.length : Int) < a2) = false := decide_eq_false hp1
          obtain ⟨p, rfl⟩ := Int.eq_ofNat_of_zero_le (Int.not_lt.mp hp0)
          rw [Int.toNat_natCast] at h
          have HE := Aside0.mk (Option.some.inj h)
          have hp : p ≤ l1.length := by omega
          clear h hp0 hp1
          go_upto_region 5 with (first
            | ((with_reducible refine gate_dst (N := 10) rfl ?_); refine box_event ?hg (N := 10) ?hd (cs := #[.int .i64 0, .slice none 0 0]) (t := 46) ?hr ?_; (case hd => rfl); (case hg => rfl); (case hr => first | (go_simp; done) | (go_simp; rfl)); intro gb hg w8 hbox hb; have n0_ := Aside0.mk (below_step HB.out hb); have BK := Aside0.mk hbox; have HBG := Aside0.mk (show w.heap.size ≤ gb by rw [hg]; exact HB.out.size); clear HB hb hbox hg; have HB := n0_; clear n0_))
          go_wp2_with fail
          go_loopw [32] (fun v wr => ∃ (i : Nat) (Aw : Option Addr) (cw : Nat), i ≤ p + 1 ∧ v = .int .i64 i ∧ Aside0 (Below w.heap.size w wr) ∧ Aside0 (wr.heap[gb]? = some (.cells #[.int .i64 (pr l1 l0 i).1, .slice Aw (pr l1 l0 i).2.length cw] 46 (0, 0))) ∧ Aside0 (RowAt wr Aw (pr l1 l0 i).2)) (fun v _ => p + 1 - (intOf v).toNat)
          case atStart => exact ⟨0, none, 0, by omega, rfl, HB, BK, ⟨.inl rfl⟩⟩
          case round =>
            clear HB BK
            obtain ⟨i, Aw, cw, hi, rfl, HB, BK, HR⟩ := hrel
            by_cases hlt : i < p + 1
            · have HPF := Aside0.mk (pr_first l1 l0 i (by omega))
              have HPB := Aside0.mk (pr_bd l1 l0 hxy i (by omega))
              have HPL := Aside0.mk (pr_len l1 l0 hyl i (by omega))
              have HEQ := Aside0.mk (show pr l1 l0 (i + 1) = (-(i : Int), nx l1 l0 i (pr l1 l0 i).1 (pr l1 l0 i).2) from pr.eq_2 l1 l0 i)
              have hlt2 : decide ((i : Int) < (p : Int) + 1) = true := decide_eq_true (by omega)
              have hz0 : wr.cell? ⟨gb, 0, none⟩ = some (.int .i64 (pr l1 l0 i).1) := (blk_cell BK.out 0).trans rfl
              have hz1 : wr.cell? ⟨gb, 1, none⟩ = some (.slice Aw (pr l1 l0 i).2.length cw) := (blk_cell BK.out 1).trans rfl
              go_wp2_with (first
                | (go_at_call 24; ((with_reducible refine (onp_next.calls l1 l0 i (pr l1 l0 i).1 Aw cw (pr l1 l0 i).2 A1 c1 A0 c0 _ (Kd.C_below HXR.out HB.out) HXC.out (Kd.C_below HYR.out HB.out) HYC.out HR.out hxy hyl (by omega) HPL.out HPF.out.1 (Int.le_trans HPF.out.2 (by decide)) HPB.out).mono ?_); rintro e w3 ⟨ga, rfl, hr, hb⟩; have n0_ := Aside0.mk (below_step HB.out hb); have n1_ := Aside0.mk (blk_below BK.out hb); clear HB BK hz0 hz1 HR; have HB := n0_; have BK := n1_; clear n0_ n1_ hb; have HR := Aside0.mk hr; clear hr; have hz0 := (blk_cell BK.out 0).trans rfl; have hz1 := (blk_cell BK.out 1).trans rfl; have hfz0 := blk_frozen BK.out 0; have hfz1 := blk_frozen BK.out 1)))
              generalize nx l1 l0 i (pr l1 l0 i).1 (pr l1 l0 i).2 = Ln at HR HEQ ⊢
              have n0_ := blk_put (cs' := #[.int .i64 (-(i : Int)), .slice Aw (pr l1 l0 i).2.length cw]) BK.out 0 (.int .i64 (-(i : Int))) rfl
              have n1_ := Aside0.mk (blk_put (cs' := #[.int .i64 (-(i : Int)), .slice (some ⟨ga, 0, none⟩) Ln.length Ln.length]) n0_ 1 (.slice (some ⟨ga, 0, none⟩) Ln.length Ln.length) rfl)
              have n2_ := Aside0.mk (RowAt.far (RowAt.far HR.out BK.out (by decide) (by decide) 0 (.int .i64 (-(i : Int)))) n0_ (by decide) (by decide) 1 (.slice (some ⟨ga, 0, none⟩) Ln.length Ln.length))
              have n3_ := Aside0.mk (below_set (j := 1) (v := .slice (some ⟨ga, 0, none⟩) Ln.length Ln.length) (below_set (j := 0) (v := .int .i64 (-(i : Int))) HB.out HBG.out) HBG.out)
              go_roundw
              case rel => exact ⟨i + 1, some ⟨ga, 0, none⟩, Ln.length, by omega, by go_num, n3_, ⟨by rw [HEQ.out]; exact n1_.out⟩, ⟨by rw [HEQ.out]; exact n2_.out⟩⟩
              case measure => simp [intOf]; omega
            · obtain ⟨q, rfl⟩ : ∃ q, i = q + 1 := ⟨i - 1, by omega⟩
              obtain rfl : p = q := by omega
              have hlen : 0 < (pr l1 l0 (p + 1)).2.length := by rw [show (pr l1 l0 (p + 1)).2 = nx l1 l0 p (pr l1 l0 p).1 (pr l1 l0 p).2 from rfl, nx_len]; omega
              obtain ⟨ga, rfl⟩ := HR.out.form hlen
              have hll := pr_len l1 l0 hyl (p + 1) (by omega)
              generalize (pr l1 l0 (p + 1)).2 = L at HE HR BK hlen hll
              rw [show ((p + 1 : Nat) : Int) = (p : Int) + 1 by simp]
              have hlt2 : decide ((p : Int) + 1 < (p : Int) + 1) = false := decide_eq_false (by omega)
              have hz1 : wr.cell? ⟨gb, 1, none⟩ = some (.slice (some ⟨ga, 0, none⟩) L.length cw) := (blk_cell BK.out 1).trans rfl
              go_wp2_with fail
              clear hz1 hlt2 hlt BK
              go_loopw [44, 12] (fun v u wr => ∃ (i : Nat), i ≤ L.length ∧ v = .int .i64 i ∧ Aside0 (Below w.heap.size w wr) ∧ Aside0 (RowAt wr (some ⟨ga, 0, none⟩) L) ∧ Aside0 (Kd.R (Kd.int .i64) 3 wr w.heap.size (fun _ => True) u ((L.take i).map fun r => r.1))) (fun v _ _ => L.length - (intOf v).toNat)
              case atStart => exact ⟨0, by omega, rfl, HB, HR, ⟨Kd.R_nil _ _ _ _ _⟩⟩
              case round =>
                clear HB HR
                obtain ⟨i, hi, rfl, HB, HR, HO⟩ := hrel
                by_cases hlt : i < L.length
                · obtain ⟨q, hE0, hE1⟩ := HR.out.elem hlt
                  have HT := Aside0.mk (map_take_succ hlt)
                  have HTL := Aside0.mk (show ((L.take i).map fun r => r.1).length ≤ i by simp; omega)
                  generalize L[i].1 = x0 at hE0 HT
                  generalize ((L.take i).map fun r => r.1) = xs at HO HT HTL
                  have gi0 : (0 : Int) ≤ (i : Int) := by omega
                  have gi1 : (i : Int) < (L.length : Int) := by omega
                  go_upto_region 14 with (first
                    | ((with_reducible refine gate_dst (N := 14) rfl ?_); refine box_event ?hg (N := 14) ?hd (cs := #[.int .i64 0, .pointer none]) (t := 49) ?hr ?_; (case hd => rfl); (case hg => rfl); (case hr => first | (go_simp; done) | (go_simp; rfl)); intro gc hg w8 hbox hb; have HB8 := Aside0.mk hb; have BB := Aside0.mk hbox; have HCG := Aside0.mk (show wr.heap.size ≤ gc by rw [hg]; exact Nat.le_refl _); (try clear hb); (try clear hbox); (try clear hg); have hbz0 := (blk_cell BB.out 0).trans rfl; have hbz1 := (blk_cell BB.out 1).trans rfl; have hbf0 := blk_frozen BB.out 0; have hbf1 := blk_frozen BB.out 1))
                  have n5_ := blk_put (cs' := #[.int .i64 x0, .pointer none]) BB.out 0 (.int .i64 x0) rfl
                  have n6_ := blk_put (cs' := #[.int .i64 x0, .pointer q]) n5_ 1 (.pointer q) rfl
                  have n4_ := below_set (j := 1) (v := .pointer q) (below_set (j := 0) (v := .int .i64 x0) HB8.out HCG.out) HCG.out
                  have n0_ := Aside0.mk (below_step HB.out n4_)
                  have n2_ := Aside0.mk (RowAt.below n4_ HR.out)
                  have n3_ := Aside0.mk (Kd.R_below HO.out n4_)
                  clear HB HR HO hbz0 hbz1 hbf0 hbf1 BB HB8 n5_ n4_ hE0 hE1
                  have HB := n0_
                  have HR := n2_
                  have HO := n3_
                  have BB := Aside0.mk n6_
                  clear n0_ n2_ n3_ n6_
                  generalize (w8.setCell ⟨gc, 0, none⟩ (.int .i64 x0)).setCell ⟨gc, 1, none⟩ (.pointer q) = w5 at HB HR HO BB ⊢
                  have hbz0 : w5.cell? ⟨gc, 0, none⟩ = some (.int .i64 x0) := (blk_cell BB.out 0).trans rfl
                  go_wp2_with (first | ((with_reducible refine gate_builtin (b := .append) (xs := #[.tmp 48, .tmp 51]) rfl ?_); at_builtin; refine Kd.R_append (Kd.int .i64) (w0 := w) w.heap.size rfl (.tmp 48) (.tmp 51) 24 3 (.int .i64 0) 8 rfl Try.underlying24 info3_ rfl (by decide) (by omega) u12 xs x0 [.int .i64 x0] (fun _ => True) (fun _ => False) rfl rfl ?aP (fun _ hk => hk.elim) ?aF ?aO ?aB ?aS ?aL ?_; (case aP => exact rfl); (case aB => exact (by repeat (first | (with_reducible first | exact HB.out | apply below_alloc | apply pw_below_drewN | apply below_drew1) | exact HB.out))); (case aF => exact (fun _ _ => trivial)); (case aO => exact (by (with_reducible repeat (first | apply Kd.R_alloc | apply Kd.R_drewN | apply Kd.R_drew)); exact HO.out)); (case aS => exact (below_size (by repeat (first | (with_reducible first | exact HB.out | apply below_alloc | apply pw_below_drewN | apply below_drew1) | exact HB.out)))); (case aL => have := HTL.out; omega); intro v140 w6 ho hb hg hat; have n2_ := Aside0.mk (RowAt.grown HR.out hg (Kd.R_typed HO.out) (by decide) (by decide)); rw [← HT.out] at ho; have n0_ := Aside0.mk hb; have n1_ := Aside0.mk ho; clear HB HO HR ho hb hg hat; have HB := n0_; have HO := n1_; have HR := n2_; clear n0_ n1_ n2_))
                  go_roundw
                  case rel => exact ⟨i + 1, by omega, by go_num, HB, HR, HO⟩
                  case measure => simp [intOf]; omega
                · obtain rfl : i = L.length := by omega
                  go_wp2
                  go_ret
                  refine ⟨_, rfl, ?_, HB.out⟩
                  rw [← HE.out]
                  have := HO.out
                  rwa [List.take_length] at this
    · rw [if_neg hlt] at h
      have H := Aside0.mk h
      clear h
      go_enter Try.func10, Try.ntmps10
      go_upto_region 2 with (first
        | (go_at_call 22; ((with_reducible refine (onp_ord.le _ _ _ _ _ _ _ hlt).mono ?_); rintro e w2 ⟨rfl, hb⟩; have n0_ := Aside0.mk (below_step HB.out hb.below); clear HB hb; have HB := n0_; clear n0_)))
      have HXR := HR0
      have HYR := HR1
      have HXC := HC0
      have HYC := HC1
      have hxy : l0.length ≤ l1.length := Nat.not_lt.mp hlt
      have hyl := hl1
      clear HR0 HR1 HC0 HC1 hlt hl0 hl1
      have h := H.out
      clear H
      unfold onp_Far.g at h
      by_cases hp0 : a2 < 0
      · rw [if_pos hp0] at h
        obtain rfl := Option.some.inj h
        have d0 : decide (a2 < 0) = true := decide_eq_true hp0
        go_wp2
        go_ret
        exact ⟨_, rfl, Kd.R_nil _ _ _ _ _, HB.out⟩
      · rw [if_neg hp0] at h
        have d0 : decide (a2 < 0) = false := decide_eq_false hp0
        by_cases hp1 : (l0.length : Int) < a2
        · rw [if_pos hp1] at h
          obtain rfl := Option.some.inj h
          have d1 : decide ((l0.length : Int) < a2) = true := decide_eq_true hp1
          go_wp2
          go_ret
          exact ⟨_, rfl, Kd.R_nil _ _ _ _ _, HB.out⟩
        · rw [if_neg hp1] at h
          have d1 : decide ((l0.length : Int) < a2) = false := decide_eq_false hp1
          obtain ⟨p, rfl⟩ := Int.eq_ofNat_of_zero_le (Int.not_lt.mp hp0)
          rw [Int.toNat_natCast] at h
          have HE := Aside0.mk (Option.some.inj h)
          have hp : p ≤ l0.length := by omega
          clear h hp0 hp1
          go_upto_region 5 with (first
            | ((with_reducible refine gate_dst (N := 10) rfl ?_); refine box_event ?hg (N := 10) ?hd (cs := #[.int .i64 0, .slice none 0 0]) (t := 46) ?hr ?_; (case hd => rfl); (case hg => rfl); (case hr => first | (go_simp; done) | (go_simp; rfl)); intro gb hg w8 hbox hb; have n0_ := Aside0.mk (below_step HB.out hb); have BK := Aside0.mk hbox; have HBG := Aside0.mk (show w.heap.size ≤ gb by rw [hg]; exact HB.out.size); clear HB hb hbox hg; have HB := n0_; clear n0_))
          go_wp2_with fail
          go_loopw [32] (fun v wr => ∃ (i : Nat) (Aw : Option Addr) (cw : Nat), i ≤ p + 1 ∧ v = .int .i64 i ∧ Aside0 (Below w.heap.size w wr) ∧ Aside0 (wr.heap[gb]? = some (.cells #[.int .i64 (pr l0 l1 i).1, .slice Aw (pr l0 l1 i).2.length cw] 46 (0, 0))) ∧ Aside0 (RowAt wr Aw (pr l0 l1 i).2)) (fun v _ => p + 1 - (intOf v).toNat)
          case atStart => exact ⟨0, none, 0, by omega, rfl, HB, BK, ⟨.inl rfl⟩⟩
          case round =>
            clear HB BK
            obtain ⟨i, Aw, cw, hi, rfl, HB, BK, HR⟩ := hrel
            by_cases hlt : i < p + 1
            · have HPF := Aside0.mk (pr_first l0 l1 i (by omega))
              have HPB := Aside0.mk (pr_bd l0 l1 hxy i (by omega))
              have HPL := Aside0.mk (pr_len l0 l1 hyl i (by omega))
              have HEQ := Aside0.mk (show pr l0 l1 (i + 1) = (-(i : Int), nx l0 l1 i (pr l0 l1 i).1 (pr l0 l1 i).2) from pr.eq_2 l0 l1 i)
              have hlt2 : decide ((i : Int) < (p : Int) + 1) = true := decide_eq_true (by omega)
              have hz0 : wr.cell? ⟨gb, 0, none⟩ = some (.int .i64 (pr l0 l1 i).1) := (blk_cell BK.out 0).trans rfl
              have hz1 : wr.cell? ⟨gb, 1, none⟩ = some (.slice Aw (pr l0 l1 i).2.length cw) := (blk_cell BK.out 1).trans rfl
              go_wp2_with (first
                | (go_at_call 24; ((with_reducible refine (onp_next.calls l0 l1 i (pr l0 l1 i).1 Aw cw (pr l0 l1 i).2 A0 c0 A1 c1 _ (Kd.C_below HXR.out HB.out) HXC.out (Kd.C_below HYR.out HB.out) HYC.out HR.out hxy hyl (by omega) HPL.out HPF.out.1 (Int.le_trans HPF.out.2 (by decide)) HPB.out).mono ?_); rintro e w3 ⟨ga, rfl, hr, hb⟩; have n0_ := Aside0.mk (below_step HB.out hb); have n1_ := Aside0.mk (blk_below BK.out hb); clear HB BK hz0 hz1 HR; have HB := n0_; have BK := n1_; clear n0_ n1_ hb; have HR := Aside0.mk hr; clear hr; have hz0 := (blk_cell BK.out 0).trans rfl; have hz1 := (blk_cell BK.out 1).trans rfl; have hfz0 := blk_frozen BK.out 0; have hfz1 := blk_frozen BK.out 1)))
              generalize nx l0 l1 i (pr l0 l1 i).1 (pr l0 l1 i).2 = Ln at HR HEQ ⊢
              have n0_ := blk_put (cs' := #[.int .i64 (-(i : Int)), .slice Aw (pr l0 l1 i).2.length cw]) BK.out 0 (.int .i64 (-(i : Int))) rfl
              have n1_ := Aside0.mk (blk_put (cs' := #[.int .i64 (-(i : Int)), .slice (some ⟨ga, 0, none⟩) Ln.length Ln.length]) n0_ 1 (.slice (some ⟨ga, 0, none⟩) Ln.length Ln.length) rfl)
              have n2_ := Aside0.mk (RowAt.far (RowAt.far HR.out BK.out (by decide) (by decide) 0 (.int .i64 (-(i : Int)))) n0_ (by decide) (by decide) 1 (.slice (some ⟨ga, 0, none⟩) Ln.length Ln.length))
              have n3_ := Aside0.mk (below_set (j := 1) (v := .slice (some ⟨ga, 0, none⟩) Ln.length Ln.length) (below_set (j := 0) (v := .int .i64 (-(i : Int))) HB.out HBG.out) HBG.out)
              go_roundw
              case rel => exact ⟨i + 1, some ⟨ga, 0, none⟩, Ln.length, by omega, by go_num, n3_, ⟨by rw [HEQ.out]; exact n1_.out⟩, ⟨by rw [HEQ.out]; exact n2_.out⟩⟩
              case measure => simp [intOf]; omega
            · obtain ⟨q, rfl⟩ : ∃ q, i = q + 1 := ⟨i - 1, by omega⟩
              obtain rfl : p = q := by omega
              have hlen : 0 < (pr l0 l1 (p + 1)).2.length := by rw [show (pr l0 l1 (p + 1)).2 = nx l0 l1 p (pr l0 l1 p).1 (pr l0 l1 p).2 from rfl, nx_len]; omega
              obtain ⟨ga, rfl⟩ := HR.out.form hlen
              have hll := pr_len l0 l1 hyl (p + 1) (by omega)
              generalize (pr l0 l1 (p + 1)).2 = L at HE HR BK hlen hll
              rw [show ((p + 1 : Nat) : Int) = (p : Int) + 1 by simp]
              have hlt2 : decide ((p : Int) + 1 < (p : Int) + 1) = false := decide_eq_false (by omega)
              have hz1 : wr.cell? ⟨gb, 1, none⟩ = some (.slice (some ⟨ga, 0, none⟩) L.length cw) := (blk_cell BK.out 1).trans rfl
              go_wp2_with fail
              clear hz1 hlt2 hlt BK
              go_loopw [44, 12] (fun v u wr => ∃ (i : Nat), i ≤ L.length ∧ v = .int .i64 i ∧ Aside0 (Below w.heap.size w wr) ∧ Aside0 (RowAt wr (some ⟨ga, 0, none⟩) L) ∧ Aside0 (Kd.R (Kd.int .i64) 3 wr w.heap.size (fun _ => True) u ((L.take i).map fun r => r.1))) (fun v _ _ => L.length - (intOf v).toNat)
              case atStart => exact ⟨0, by omega, rfl, HB, HR, ⟨Kd.R_nil _ _ _ _ _⟩⟩
              case round =>
                clear HB HR
                obtain ⟨i, hi, rfl, HB, HR, HO⟩ := hrel
                by_cases hlt : i < L.length
                · obtain ⟨q, hE0, hE1⟩ := HR.out.elem hlt
                  have HT := Aside0.mk (map_take_succ hlt)
                  have HTL := Aside0.mk (show ((L.take i).map fun r => r.1).length ≤ i by simp; omega)
                  generalize L[i].1 = x0 at hE0 HT
                  generalize ((L.take i).map fun r => r.1) = xs at HO HT HTL
                  have gi0 : (0 : Int) ≤ (i : Int) := by omega
                  have gi1 : (i : Int) < (L.length : Int) := by omega
                  go_upto_region 14 with (first
                    | ((with_reducible refine gate_dst (N := 14) rfl ?_); refine box_event ?hg (N := 14) ?hd (cs := #[.int .i64 0, .pointer none]) (t := 49) ?hr ?_; (case hd => rfl); (case hg => rfl); (case hr => first | (go_simp; done) | (go_simp; rfl)); intro gc hg w8 hbox hb; have HB8 := Aside0.mk hb; have BB := Aside0.mk hbox; have HCG := Aside0.mk (show wr.heap.size ≤ gc by rw [hg]; exact Nat.le_refl _); (try clear hb); (try clear hbox); (try clear hg); have hbz0 := (blk_cell BB.out 0).trans rfl; have hbz1 := (blk_cell BB.out 1).trans rfl; have hbf0 := blk_frozen BB.out 0; have hbf1 := blk_frozen BB.out 1))
                  have n5_ := blk_put (cs' := #[.int .i64 x0, .pointer none]) BB.out 0 (.int .i64 x0) rfl
                  have n6_ := blk_put (cs' := #[.int .i64 x0, .pointer q]) n5_ 1 (.pointer q) rfl
                  have n4_ := below_set (j := 1) (v := .pointer q) (below_set (j := 0) (v := .int .i64 x0) HB8.out HCG.out) HCG.out
                  have n0_ := Aside0.mk (below_step HB.out n4_)
                  have n2_ := Aside0.mk (RowAt.below n4_ HR.out)
                  have n3_ := Aside0.mk (Kd.R_below HO.out n4_)
                  clear HB HR HO hbz0 hbz1 hbf0 hbf1 BB HB8 n5_ n4_ hE0 hE1
                  have HB := n0_
                  have HR := n2_
                  have HO := n3_
                  have BB := Aside0.mk n6_
                  clear n0_ n2_ n3_ n6_
                  generalize (w8.setCell ⟨gc, 0, none⟩ (.int .i64 x0)).setCell ⟨gc, 1, none⟩ (.pointer q) = w5 at HB HR HO BB ⊢
                  have hbz0 : w5.cell? ⟨gc, 0, none⟩ = some (.int .i64 x0) := (blk_cell BB.out 0).trans rfl
                  go_wp2_with (first | ((with_reducible refine gate_builtin (b := .append) (xs := #[.tmp 48, .tmp 51]) rfl ?_); at_builtin; refine Kd.R_append (Kd.int .i64) (w0 := w) w.heap.size rfl (.tmp 48) (.tmp 51) 24 3 (.int .i64 0) 8 rfl Try.underlying24 info3_ rfl (by decide) (by omega) u12 xs x0 [.int .i64 x0] (fun _ => True) (fun _ => False) rfl rfl ?aP (fun _ hk => hk.elim) ?aF ?aO ?aB ?aS ?aL ?_; (case aP => exact rfl); (case aB => exact (by repeat (first | (with_reducible first | exact HB.out | apply below_alloc | apply pw_below_drewN | apply below_drew1) | exact HB.out))); (case aF => exact (fun _ _ => trivial)); (case aO => exact (by (with_reducible repeat (first | apply Kd.R_alloc | apply Kd.R_drewN | apply Kd.R_drew)); exact HO.out)); (case aS => exact (below_size (by repeat (first | (with_reducible first | exact HB.out | apply below_alloc | apply pw_below_drewN | apply below_drew1) | exact HB.out)))); (case aL => have := HTL.out; omega); intro v140 w6 ho hb hg hat; have n2_ := Aside0.mk (RowAt.grown HR.out hg (Kd.R_typed HO.out) (by decide) (by decide)); rw [← HT.out] at ho; have n0_ := Aside0.mk hb; have n1_ := Aside0.mk ho; clear HB HO HR ho hb hg hat; have HB := n0_; have HO := n1_; have HR := n2_; clear n0_ n1_ n2_))
                  go_roundw
                  case rel => exact ⟨i + 1, by omega, by go_num, HB, HR, HO⟩
                  case measure => simp [intOf]; omega
                · obtain rfl : i = L.length := by omega
                  go_wp2
                  go_ret
                  refine ⟨_, rfl, ?_, HB.out⟩
                  rw [← HE.out]
                  have := HO.out
                  rwa [List.take_length] at this
  · rw [if_neg hl] at h
    cases h

/-! ### onp_Most: function 13 -/
def onp_Most.j0 : Nat → Int → Int → Int → Bool → Option (Int)
  | 0, _, _, _, _ => none
  | k + 1, x0, x1, x2, x22 => if x22 = true then (some 0) else (if x2 < (mx (wrap64 (x0 - x1)) (wrap64 (x1 - x0))) then (some 0) else (if x2 > (wrap64 (x0 + x1)) then (some 0) else (if (Int.tmod (wrap64 (x2 - (mx (wrap64 (x0 - x1)) (wrap64 (x1 - x0))))) 2) = 0 then (some (wrap64 ((wrap64 ((wrap64 (Int.tdiv (wrap64 (x2 - (mx (wrap64 (x0 - x1)) (wrap64 (x1 - x0))))) 2)) + 1)) * (wrap64 ((wrap64 ((mx (wrap64 (x0 - x1)) (wrap64 (x1 - x0))) + (wrap64 (Int.tdiv (wrap64 (x2 - (mx (wrap64 (x0 - x1)) (wrap64 (x1 - x0))))) 2)))) + 1))))) else (some 0))))
def onp_Most.f (k : Nat) (a0 : Int) (a1 : Int) (a2 : Int) : Option (Int) := if a0 < 0 then (onp_Most.j0 k a0 a1 a2 true) else (if a0 > 1048576 then (onp_Most.j0 k a0 a1 a2 true) else (if a1 < 0 then (onp_Most.j0 k a0 a1 a2 true) else (onp_Most.j0 k a0 a1 a2 (decide (a1 > 1048576)))))
theorem onp_Most.mono_l : ∀ k, (∀ y0 y1 y2 y3, LeO (onp_Most.j0 k y0 y1 y2 y3) (onp_Most.j0 (k + 1) y0 y1 y2 y3))
  | 0 => fun _ _ _ _ r h => by simp [onp_Most.j0] at h
  | k + 1 => by
    have ih0 := onp_Most.mono_l k
    · intro y0 y1 y2 y3
      unfold onp_Most.j0
      repeat' first
      | (with_reducible exact ih0 _ _ _ _)
      | (with_reducible exact LeO.refl _)
      | (with_reducible exact LeO.none _)
      | (with_reducible refine LeO.ite ?_ ?_)
      | (with_reducible refine LeO.bind ?_ (fun _ => ?_))
      | exact ih0 _ _ _ _
      | exact LeO.none _
      | refine LeO.ite ?_ ?_
      | refine LeO.bind ?_ (fun _ => ?_)
theorem onp_Most.mono : ∀ a0 a1 a2 k, LeO (onp_Most.f k a0 a1 a2) (onp_Most.f (k + 1) a0 a1 a2) := by
  intro a0 a1 a2 k
  have ih0 := onp_Most.mono_l k
  unfold onp_Most.f
  repeat' first
      | (with_reducible exact ih0 _ _ _ _)
      | (with_reducible exact LeO.refl _)
      | (with_reducible exact LeO.none _)
      | (with_reducible refine LeO.ite ?_ ?_)
      | (with_reducible refine LeO.bind ?_ (fun _ => ?_))
      | exact ih0 _ _ _ _
      | exact LeO.none _
      | refine LeO.ite ?_ ?_
      | refine LeO.bind ?_ (fun _ => ?_)
set_option maxHeartbeats 8000000 in
set_option maxRecDepth 100000 in
theorem onp_Most.calls (k : Nat) (a0 : Int) (a1 : Int) (a2 : Int) (r : Int) (w : World) (h : onp_Most.f k a0 a1 a2 = some r) :
    Calls Try.prog 13 #[.int .i64 a0, .int .i64 a1, .int .i64 a2] w fun e w' => e = .returned (.int .i64 r) ∧ Below w.heap.size w w' := by
  have HB := Aside0.mk (Below.refl w.heap.size w)
  have H : (if a0 < 0 then (onp_Most.j0 k a0 a1 a2 true) else (if a0 > 1048576 then (onp_Most.j0 k a0 a1 a2 true) else (if a1 < 0 then (onp_Most.j0 k a0 a1 a2 true) else (onp_Most.j0 k a0 a1 a2 (decide (a1 > 1048576)))))) = some r := h
  clear h
  have HC4 := Aside0.mk H
  clear H
  go_enter Try.func13, Try.ntmps13
  go_upto_region 1 with (fail)
  go_cut [22] (fun v22 wc => ∃ (kq : Nat) (x22_3 : Bool), v22 = .bool x22_3 ∧ Aside0 (onp_Most.j0 kq a0 a1 a2 x22_3 = some r) ∧ Aside0 (kq ≤ k) ∧ Aside0 (Below w.heap.size w wc))
  case first =>
    have H := HC4.out
    clear HC4
    by_cases c5 : a0 < 0
    · rw [if_pos c5] at H
      have c5b0 : decide (a0 < 0) = true := decide_eq_true c5
      clear c5
      (first | rw [c5b0] | (simp only [i64_w, i32_w]; rw [c5b0]) | skip)
      have H' := Aside0.mk H
      clear H
      go_wp2
      go_meet
      case rel => exact ⟨_, (true), (by first | rfl | (simp; done) | (simp [*]; done)), H', ⟨by first | omega | exact Nat.le_refl _⟩, ⟨by repeat (first | (with_reducible first | exact HB.out | apply below_alloc | apply pw_below_drewN | apply below_drew1) | exact HB.out)⟩⟩
    · rw [if_neg c5] at H
      have c5b0 : decide (a0 < 0) = false := decide_eq_false c5
      clear c5
      (first | rw [c5b0] | (simp only [i64_w, i32_w]; rw [c5b0]) | skip)
      by_cases c6 : a0 > 1048576
      · rw [if_pos c6] at H
        have c6b0 : decide (1048576 < a0) = true := decide_eq_true c6
        clear c6
        have H' := Aside0.mk H
        clear H
        go_wp2
        go_meet
        case rel => exact ⟨_, (true), (by first | rfl | (simp; done) | (simp [*]; done)), H', ⟨by first | omega | exact Nat.le_refl _⟩, ⟨by repeat (first | (with_reducible first | exact HB.out | apply below_alloc | apply pw_below_drewN | apply below_drew1) | exact HB.out)⟩⟩
      · rw [if_neg c6] at H
        have c6b0 : decide (1048576 < a0) = false := decide_eq_false c6
        clear c6
        by_cases c7 : a1 < 0
        · rw [if_pos c7] at H
          have c7b0 : decide (a1 < 0) = true := decide_eq_true c7
          clear c7
          have H' := Aside0.mk H
          clear H
          go_wp2
          go_meet
          case rel => exact ⟨_, (true), (by first | rfl | (simp; done) | (simp [*]; done)), H', ⟨by first | omega | exact Nat.le_refl _⟩, ⟨by repeat (first | (with_reducible first | exact HB.out | apply below_alloc | apply pw_below_drewN | apply below_drew1) | exact HB.out)⟩⟩
        · rw [if_neg c7] at H
          have c7b0 : decide (a1 < 0) = false := decide_eq_false c7
          clear c7
          have H' := Aside0.mk H
          clear H
          go_wp2
          go_meet
          case rel => exact ⟨_, (decide (a1 > 1048576)), (by first | rfl | (simp; done) | (simp [*]; done)), H', ⟨by first | omega | exact Nat.le_refl _⟩, ⟨by repeat (first | (with_reducible first | exact HB.out | apply below_alloc | apply pw_below_drewN | apply below_drew1) | exact HB.out)⟩⟩
  case rest =>
    clear HC4
    try clear c1
    try clear p2
    try clear c5
    try clear c5b0
    try clear c6
    try clear c6b0
    try clear c7
    try clear c7b0
    obtain ⟨kq, x22_3, rfl, HA, HJ3, HB⟩ := hcut
    cases kq with
    | zero => exact absurd HA.out (by simp [onp_Most.j0])
    | succ kj3 =>
      have H := HA.out
      clear HA
      simp only [onp_Most.j0] at H
      by_cases c8 : x22_3 = true
      · subst c8
        have H1 : (some 0) = some r := by rw [if_pos rfl] at H; exact H
        clear H
        have H := H1
        clear H1
        obtain rfl := Option.some.inj H
        go_wp2
        go_ret
        exact ⟨by first | rfl | (simp [errW_none, errW_some] <;> rfl) | (simp [*, errW_none, errW_some] <;> rfl), by repeat (first | (with_reducible first | exact HB.out | apply below_alloc | apply pw_below_drewN | apply below_drew1) | exact HB.out)⟩
      · replace c8 := Bool.eq_false_iff.mpr c8
        subst c8
        have H1 : (if a2 < (mx (wrap64 (a0 - a1)) (wrap64 (a1 - a0))) then (some 0) else (if a2 > (wrap64 (a0 + a1)) then (some 0) else (if (Int.tmod (wrap64 (a2 - (mx (wrap64 (a0 - a1)) (wrap64 (a1 - a0))))) 2) = 0 then (some (wrap64 ((wrap64 ((wrap64 (Int.tdiv (wrap64 (a2 - (mx (wrap64 (a0 - a1)) (wrap64 (a1 - a0))))) 2)) + 1)) * (wrap64 ((wrap64 ((mx (wrap64 (a0 - a1)) (wrap64 (a1 - a0))) + (wrap64 (Int.tdiv (wrap64 (a2 - (mx (wrap64 (a0 - a1)) (wrap64 (a1 - a0))))) 2)))) + 1))))) else (some 0)))) = some r := by rw [if_neg (show ¬ (false = true) by decide)] at H; exact H
        clear H
        have H := H1
        clear H1
        obtain ⟨ji9, hji9⟩ : ∃ j_ : Int, (mx (wrap64 (a0 - a1)) (wrap64 (a1 - a0))) = j_ := ⟨_, rfl⟩
        replace H : (if a2 < (ji9) then (some 0) else (if a2 > (wrap64 (a0 + a1)) then (some 0) else (if (Int.tmod (wrap64 (a2 - (ji9))) 2) = 0 then (some (wrap64 ((wrap64 ((wrap64 (Int.tdiv (wrap64 (a2 - (ji9))) 2)) + 1)) * (wrap64 ((wrap64 ((ji9) + (wrap64 (Int.tdiv (wrap64 (a2 - (ji9))) 2)))) + 1))))) else (some 0)))) = some r := by first | (rw [hji9] at H; exact H) | (simp only [hji9] at H ⊢; exact H)
        have hji9_ : (if (wrap64 (a0 - a1)) < (wrap64 (a1 - a0)) then (wrap64 (a1 - a0)) else (wrap64 (a0 - a1))) = ji9 := hji9
        by_cases c10 : a2 < (ji9)
        · rw [if_pos c10] at H
          have c10b0 : decide (a2 < (ji9)) = true := decide_eq_true c10
          clear c10
          obtain rfl := Option.some.inj H
          go_wp2
          go_ret
          exact ⟨by first | rfl | (simp [errW_none, errW_some] <;> rfl) | (simp only [← hji9]; first | rfl | (simp [errW_none, errW_some] <;> rfl)) | (simp [*, errW_none, errW_some] <;> rfl), by repeat (first | (with_reducible first | exact HB.out | apply below_alloc | apply pw_below_drewN | apply below_drew1) | exact HB.out)⟩
        · rw [if_neg c10] at H
          have c10b0 : decide (a2 < (ji9)) = false := decide_eq_false c10
          clear c10
          by_cases c11 : a2 > (wrap64 (a0 + a1))
          · rw [if_pos c11] at H
            have c11b0 : decide ((wrap64 (a0 + a1)) < a2) = true := decide_eq_true c11
            clear c11
            obtain rfl := Option.some.inj H
            go_wp2
            go_ret
            exact ⟨by first | rfl | (simp [errW_none, errW_some] <;> rfl) | (simp only [← hji9]; first | rfl | (simp [errW_none, errW_some] <;> rfl)) | (simp [*, errW_none, errW_some] <;> rfl), by repeat (first | (with_reducible first | exact HB.out | apply below_alloc | apply pw_below_drewN | apply below_drew1) | exact HB.out)⟩
          · rw [if_neg c11] at H
            have c11b0 : decide ((wrap64 (a0 + a1)) < a2) = false := decide_eq_false c11
            clear c11
            by_cases c12 : (Int.tmod (wrap64 (a2 - (ji9))) 2) = 0
            · rw [if_pos c12] at H
              have c12b0 : ((Int.tmod (wrap64 (a2 - (ji9))) 2) == 0) = true := beq_iff_eq.mpr c12
              have c12b1 : ((Int.tmod (wrap64 (a2 - (ji9))) 2) != 0) = false := bne_eq_false_iff_eq.mpr c12
              clear c12
              obtain rfl := Option.some.inj H
              go_wp2
              go_ret
              exact ⟨by first | rfl | (simp [errW_none, errW_some] <;> rfl) | (simp only [← hji9]; first | rfl | (simp [errW_none, errW_some] <;> rfl)) | (simp [*, errW_none, errW_some] <;> rfl), by repeat (first | (with_reducible first | exact HB.out | apply below_alloc | apply pw_below_drewN | apply below_drew1) | exact HB.out)⟩
            · rw [if_neg c12] at H
              have c12b0 : ((Int.tmod (wrap64 (a2 - (ji9))) 2) == 0) = false := beq_eq_false_iff_ne.mpr c12
              have c12b1 : ((Int.tmod (wrap64 (a2 - (ji9))) 2) != 0) = true := bne_iff_ne.mpr c12
              obtain rfl := Option.some.inj H
              go_wp2
              go_ret
              exact ⟨by first | rfl | (simp [errW_none, errW_some] <;> rfl) | (simp only [← hji9]; first | rfl | (simp [errW_none, errW_some] <;> rfl)) | (simp [*, errW_none, errW_some] <;> rfl), by repeat (first | (with_reducible first | exact HB.out | apply below_alloc | apply pw_below_drewN | apply below_drew1) | exact HB.out)⟩

/-! ### api_Pair: function 25 -/
def api_Pair.l0 : Nat → List (S53) → Int → Int → Option ((List (S53)))
  | 0, _, _, _ => none
  | k + 1, x0, x2, x3 => if x2 < x3 then (if 0 ≤ x3 then (if x3 < (x0.length : Int) then (if 0 ≤ x2 then (if x2 < (x0.length : Int) then (api_Pair.l0 k ((x0.set (x2 : Int).toNat (⟨(rd_T53 x0 x3).f0, (rd_T53 x0 x3).f1⟩ : S53)).set (x3 : Int).toNat (⟨(rd_T53 x0 x2).f0, (rd_T53 x0 x2).f1⟩ : S53)) (wrap64 (x2 + 1)) (wrap64 (x3 - 1))) else (none)) else (none)) else (none)) else (none)) else (some x0)
def api_Pair.f (k : Nat) (l0 : List (S53)) : Option ((List (S53))) := api_Pair.l0 k l0 0 (wrap64 ((l0.length : Int) - 1))
theorem api_Pair.mono_l : ∀ k, (∀ y0 y1 y2, LeO (api_Pair.l0 k y0 y1 y2) (api_Pair.l0 (k + 1) y0 y1 y2))
  | 0 => fun _ _ _ r h => by simp [api_Pair.l0] at h
  | k + 1 => by
    have ih0 := api_Pair.mono_l k
    · intro y0 y1 y2
      unfold api_Pair.l0
      repeat' first
      | (with_reducible exact ih0 _ _ _)
      | (with_reducible exact LeO.refl _)
      | (with_reducible exact LeO.none _)
      | (with_reducible refine LeO.ite ?_ ?_)
      | (with_reducible refine LeO.bind ?_ (fun _ => ?_))
      | exact ih0 _ _ _
      | exact LeO.none _
      | refine LeO.ite ?_ ?_
      | refine LeO.bind ?_ (fun _ => ?_)
theorem api_Pair.mono : ∀ a0 k, LeO (api_Pair.f k a0) (api_Pair.f (k + 1) a0) := by
  intro a0 k
  have ih0 := api_Pair.mono_l k
  unfold api_Pair.f
  repeat' first
      | (with_reducible exact ih0 _ _ _)
      | (with_reducible exact LeO.refl _)
      | (with_reducible exact LeO.none _)
      | (with_reducible refine LeO.ite ?_ ?_)
      | (with_reducible refine LeO.bind ?_ (fun _ => ?_))
      | exact ih0 _ _ _
      | exact LeO.none _
      | refine LeO.ite ?_ ?_
      | refine LeO.bind ?_ (fun _ => ?_)
def api_Pair.T3 : Bool × List (List Nat × List Nat) := (true, [([], []), ([], []), ([], []), ([], []), ([], []), ([], []), ([4, 5], [4, 5]), ([6], [6]), ([], []), ([], []), ([8, 9], [8, 9]), ([10], [10]), ([0, 1, 0, 1, 4, 5, 6, 7, 11], [0, 1]), ([12, 7, 0, 1, 4, 5, 6, 7, 11], [7, 12]), ([2, 3, 0, 1, 2, 3, 4, 5, 6, 7, 8, 9, 10, 11, 12, 13], [2, 3]), ([14, 11, 13, 0, 1, 2, 3, 4, 5, 6, 7, 8, 9, 10, 11, 12, 13], [11, 14])])
def api_Pair.B3 : List Nat := [0, 0, 0, 0, 0, 0, 48, 112, 0, 0, 768, 1792, 4083, 8179, 16383, 32767]
theorem api_Pair.tab3 : rtab .any (opsOf Try.f25 3) = api_Pair.T3 := by kernel_rfl
theorem api_Pair.bits3 : waitsOk api_Pair.T3.2 api_Pair.B3 = true := by kernel_rfl
set_option maxHeartbeats 8000000 in
set_option maxRecDepth 100000 in
theorem api_Pair.calls (k : Nat) (P0_ : Nat → Prop) (u9000_ : Value) (l0 : List (S53)) (r : List (S53)) (w0 w : World) (hB : Below w0.heap.size w0 w) (ho0 : Kd.R k53 53 w w0.heap.size P0_ u9000_ l0) (h : api_Pair.f k l0 = some r) :
    Calls Try.prog 25 #[u9000_] w fun e w' => e = .returned (.tuple #[]) ∧ Kd.R k53 53 w' w0.heap.size (fun k_ => (P0_ k_ ∨ w.heap.size ≤ k_)) u9000_ r ∧ Below w0.heap.size w0 w' ∧ Kept w w' (fun k_ => P0_ k_) := by
  have hu53 := Try.underlying53
  have HO0 := Aside0.mk (show Kd.R k53 53 w w0.heap.size (fun k_ => (P0_ k_ ∨ w.heap.size ≤ k_)) u9000_ l0 from Kd.R_mono ho0 (fun k_ hk => (.inl hk)))
  have HK := Aside0.mk (Kept.refl w (fun k_ => P0_ k_))
  have HW0 := Aside0.mk hB.size
  have HB := Aside0.mk hB
  clear hB
  have H : (api_Pair.l0 k l0 0 (wrap64 ((l0.length : Int) - 1))) = some r := h
  clear h
  have H' := Aside0.mk H
  clear H
  obtain ⟨Ao2, co2, eo2⟩ := Kd.R_slice HO0.out
  subst eo2
  go_enter Try.func25, Try.ntmps25
  go_wp2
  go_loopg [2, 3] k (fun kq v2 v3 w' => ∃ (x0_1 : List (S53)) (x2_1 : Int) (x3_1 : Int), v2 = .int .i64 x2_1 ∧ v3 = .int .i64 x3_1 ∧ Aside0 (api_Pair.l0 kq x0_1 x2_1 x3_1 = some r) ∧ Aside0 (kq ≤ k) ∧ Aside0 (Kd.R k53 53 w' w0.heap.size (fun k_ => (P0_ k_ ∨ w.heap.size ≤ k_)) (.slice Ao2 l0.length co2) x0_1) ∧ Aside0 (Kept w w' (fun k_ => P0_ k_)) ∧ Aside0 (Below w0.heap.size w0 w'))
  case atStart => exact ⟨(l0), (0), (wrap64 ((l0.length : Int) - 1)), (by first | rfl | (simp; done) | (simp [*]; done)), (by first | rfl | (simp; done) | (simp [*]; done)), H', ⟨Nat.le_refl _⟩, ⟨by (with_reducible repeat (first | apply Kd.R_alloc | apply Kd.R_drewN | apply Kd.R_drew)); exact HO0.out⟩, ⟨by repeat (first | (with_reducible first | exact HK.out | apply Kept.alloc | apply Kept.drewN | apply Kept.drew) | exact HK.out)⟩, ⟨by repeat (first | (with_reducible first | exact HB.out | apply below_alloc | apply pw_below_drewN | apply below_drew1) | exact HB.out)⟩⟩
  case round =>
    clear H'
    try clear c2
    try clear p2
    obtain ⟨x0_1, x2_1, x3_1, rfl, rfl, HA, HK1, HO_0, HK, HB⟩ := hrel
    have hl0_1 := (Kd.R_reads' HO_0.out).1
    rw [hl0_1] at HO_0
    (try simp only [hl0_1])
    cases gk with
    | zero => exact absurd HA.out (by simp [api_Pair.l0])
    | succ k1 =>
      have H := HA.out
      clear HA
      simp only [api_Pair.l0] at H
      by_cases c3 : x2_1 < x3_1
      · rw [if_pos c3] at H
        have c3b0 : decide (x2_1 < x3_1) = true := decide_eq_true c3
        clear c3
        by_cases c4 : 0 ≤ x3_1
        · rw [if_pos c4] at H
          have c4b0 : decide (0 ≤ x3_1) = true := decide_eq_true c4
          clear c4
          by_cases c5 : x3_1 < (x0_1.length : Int)
          · rw [if_pos c5] at H
            have c5b0 : decide (x3_1 < (x0_1.length : Int)) = true := decide_eq_true c5
            try (have c5b0zhl0_1 := c5b0; rw [hl0_1] at c5b0zhl0_1)
            clear c5
            by_cases c6 : 0 ≤ x2_1
            · rw [if_pos c6] at H
              have c6b0 : decide (0 ≤ x2_1) = true := decide_eq_true c6
              clear c6
              by_cases c7 : x2_1 < (x0_1.length : Int)
              · rw [if_pos c7] at H
                have c7b0 : decide (x2_1 < (x0_1.length : Int)) = true := decide_eq_true c7
                try (have c7b0zhl0_1 := c7b0; rw [hl0_1] at c7b0zhl0_1)
                clear c7
                obtain ⟨y117, hy117⟩ : ∃ y_ : List (S53), y_ = (x0_1.set (x2_1 : Int).toNat (⟨(rd_T53 x0_1 x3_1).f0, (rd_T53 x0_1 x3_1).f1⟩ : S53)) := ⟨_, rfl⟩
                replace H : (api_Pair.l0 k1 (y117.set (x3_1 : Int).toNat (⟨(rd_T53 x0_1 x2_1).f0, (rd_T53 x0_1 x2_1).f1⟩ : S53)) (wrap64 (x2_1 + 1)) (wrap64 (x3_1 - 1))) = some r := by first | (rw [hy117]; with_reducible exact H) | (have H2_ := (Option.bind_some _ _).symm.trans H; rw [hy117]; with_reducible exact H2_) | (have H2_ := (Option.bind_some _ _).symm.trans H; with_reducible exact H2_) | with_reducible exact H | (rw [hy117]; exact H) | exact H
                have Ny117 := Aside0.mk hy117
                clear hy117
                obtain ⟨y118, hy118⟩ : ∃ y_ : List (S53), y_ = (y117.set (x3_1 : Int).toNat (⟨(rd_T53 x0_1 x2_1).f0, (rd_T53 x0_1 x2_1).f1⟩ : S53)) := ⟨_, rfl⟩
                replace H : (api_Pair.l0 k1 y118 (wrap64 (x2_1 + 1)) (wrap64 (x3_1 - 1))) = some r := by first | (rw [hy118]; with_reducible exact H) | (have H2_ := (Option.bind_some _ _).symm.trans H; rw [hy118]; with_reducible exact H2_) | (have H2_ := (Option.bind_some _ _).symm.trans H; with_reducible exact H2_) | with_reducible exact H | (rw [hy118]; exact H) | exact H
                have Ny118 := Aside0.mk hy118
                clear hy118
                have H' := Aside0.mk H
                clear H
                try go_wp2
                have n0_ := Aside0.mk (Kd.R_drew HO_0.out)
                have n1_ := Aside0.mk (Kept.drew HK.out)
                have n2_ := Aside0.mk (below_drew1 HB.out)
                clear HO_0
                clear HK
                clear HB
                have HO_0 := n0_
                have HK := n1_
                have HB := n2_
                clear n0_ n1_ n2_
                have p115 : 0 ≤ (x3_1 : Int) := of_decide_eq_true (by first | (with_reducible assumption) | assumption)
                have q115 : x3_1 < (x0_1.length : Int) := of_decide_eq_true (by first | (with_reducible assumption) | assumption)
                try (obtain ⟨Ap115, cp115, ep115⟩ := Kd.R_slice HO_0.out; subst ep115)
                obtain ⟨ad115, e115, hx115_0, hx115_1⟩ := at_T53 (Kd.R_reads' HO_0.out).2.2 x3_1 p115 q115
                cases e115
                replace p115 := eq_true p115
                replace q115 := eq_true q115
                have p116 : 0 ≤ (x2_1 : Int) := of_decide_eq_true (by first | (with_reducible assumption) | assumption)
                have q116 : x2_1 < (x0_1.length : Int) := of_decide_eq_true (by first | (with_reducible assumption) | assumption)
                try (obtain ⟨Ap116, cp116, ep116⟩ := Kd.R_slice HO_0.out; subst ep116)
                obtain ⟨ad116, e116, hx116_0, hx116_1⟩ := at_T53 (Kd.R_reads' HO_0.out).2.2 x2_1 p116 q116
                obtain rfl : ad115 = ad116 := (by injection e116)
                replace p116 := eq_true p116
                replace q116 := eq_true q116
                have p8 : 0 ≤ (x2_1 : Int) := of_decide_eq_true (by first | (with_reducible assumption) | assumption)
                have q8 : (x2_1 : Int) < ((x0_1.length : Int) : Int) := of_decide_eq_true (by first | (with_reducible assumption) | assumption)
                obtain ⟨go8, co8, eo8, gb8, gl8, cl8, HG8⟩ := Kd.R_form HO_0.out (by omega)
                (first | cases eo8 | (injection eo8 with ea_ en_ ec_; (first | subst ea_ | (injection ea_ with ea_; subst ea_)); subst ec_; clear en_))
                have GB8 := Aside0.mk gb8
                have GG8 := Aside0.mk HG8
                clear gb8 gl8 HG8
                have HMgo8 := Aside0.mk (show (P0_ go8 ∨ w.heap.size ≤ go8) from (HO_0.out.1 _ rfl))
                (first | simp only [add_plain] at hx115_0 | skip)
                (first | simp only [add_plain] at hx115_1 | skip)
                (first | simp only [add_plain] at hx116_0 | skip)
                (first | simp only [add_plain] at hx116_1 | skip)
                obtain ⟨ce8, hcl8, hM8, hcc8, hfr8⟩ := Kd.R_elem HO_0.out z53 (x2_1 : Int) p8 q8
                obtain rfl := k53_openM hM8
                have hx8_0 : World.cell? _ ⟨go8, (x2_1 : Int).toNat * 2, none⟩ = some (.int .i64 ((rd_T53 x0_1 x2_1).f0)) := hcc8 0 _ rfl
                have hx8_1 : World.cell? _ ⟨go8, (x2_1 : Int).toNat * 2 + 1, none⟩ = some (.int .i64 ((rd_T53 x0_1 x2_1).f1)) := hcc8 1 _ rfl
                have hf8_0 : World.frozen? _ ⟨go8, (x2_1 : Int).toNat * 2, none⟩ = false := hfr8 0
                have hf8_1 : World.frozen? _ ⟨go8, (x2_1 : Int).toNat * 2 + 1, none⟩ = false := hfr8 1
                clear hcl8 hcc8 hfr8 hM8
                replace p8 := eq_true p8
                replace q8 := eq_true q8
                obtain ⟨ce11, hcl11, hM11, hcc11, hfr11⟩ := Kd.R_elem HO_0.out z53 (x2_1 : Int) (of_decide_eq_true (by first | (with_reducible assumption) | assumption)) (by have h_ : (x2_1 : Int) < ((x0_1.length : Int) : Int) := of_decide_eq_true (by first | (with_reducible assumption) | assumption); first | exact h_ | (have e_ := (Kd.R_reads' HO_0.out).1; omega) | simpa using h_)
                obtain rfl := k53_openM hM11
                have HP11 := (Kd.R_seg HO_0.out (x2_1 : Int) (of_decide_eq_true (by first | (with_reducible assumption) | assumption)) (by have h_ : (x2_1 : Int) < ((x0_1.length : Int) : Int) := of_decide_eq_true (by first | (with_reducible assumption) | assumption); first | exact h_ | (have e_ := (Kd.R_reads' HO_0.out).1; omega) | simpa using h_) (seg := [.int .i64 ((rd_T53 x0_1 x3_1).f0), .int .i64 ((rd_T53 x0_1 x3_1).f1)]) (j := 0) hcl11 hcc11 (show 2 ≤ 2 from by decide) (x' := (⟨(rd_T53 x0_1 x3_1).f0, (rd_T53 x0_1 x3_1).f1⟩ : S53)) (k53_mkM _ _ _ (⟨(rd_T53 x0_1 x3_1).f0, (rd_T53 x0_1 x3_1).f1⟩ : S53) ) (fun _ hk => hk)).1
                rw [← Ny117.out] at HP11
                have HQ11 := Aside0.mk HP11
                clear hcl11 hcc11 hfr11 hM11 HP11
                have p9 : 0 ≤ (x3_1 : Int) := of_decide_eq_true (by first | (with_reducible assumption) | assumption)
                have q9 : (x3_1 : Int) < ((x0_1.length : Int) : Int) := of_decide_eq_true (by first | (with_reducible assumption) | assumption)
                obtain ⟨ce9, hcl9, hM9, hcc9, hfr9⟩ := Kd.R_elem HQ11.out z53 (x3_1 : Int) p9 q9
                obtain rfl := k53_openM hM9
                have hx9_0 : World.cell? _ ⟨go8, (x3_1 : Int).toNat * 2, none⟩ = some (.int .i64 ((rd_T53 y117 x3_1).f0)) := hcc9 0 _ rfl
                have hx9_1 : World.cell? _ ⟨go8, (x3_1 : Int).toNat * 2 + 1, none⟩ = some (.int .i64 ((rd_T53 y117 x3_1).f1)) := hcc9 1 _ rfl
                have hf9_0 : World.frozen? _ ⟨go8, (x3_1 : Int).toNat * 2, none⟩ = false := hfr9 0
                have hf9_1 : World.frozen? _ ⟨go8, (x3_1 : Int).toNat * 2 + 1, none⟩ = false := hfr9 1
                clear hcl9 hcc9 hfr9 hM9
                replace p9 := eq_true p9
                replace q9 := eq_true q9
                obtain ⟨ce12, hcl12, hM12, hcc12, hfr12⟩ := Kd.R_elem HQ11.out z53 (x3_1 : Int) (of_decide_eq_true (by first | (with_reducible assumption) | assumption)) (by have h_ : (x3_1 : Int) < ((x0_1.length : Int) : Int) := of_decide_eq_true (by first | (with_reducible assumption) | assumption); first | exact h_ | (have e_ := (Kd.R_reads' HO_0.out).1; omega) | simpa using h_)
                obtain rfl := k53_openM hM12
                have HP12 := (Kd.R_seg HQ11.out (x3_1 : Int) (of_decide_eq_true (by first | (with_reducible assumption) | assumption)) (by have h_ : (x3_1 : Int) < ((x0_1.length : Int) : Int) := of_decide_eq_true (by first | (with_reducible assumption) | assumption); first | exact h_ | (have e_ := (Kd.R_reads' HO_0.out).1; omega) | simpa using h_) (seg := [.int .i64 ((rd_T53 x0_1 x2_1).f0), .int .i64 ((rd_T53 x0_1 x2_1).f1)]) (j := 0) hcl12 hcc12 (show 2 ≤ 2 from by decide) (x' := (⟨(rd_T53 x0_1 x2_1).f0, (rd_T53 x0_1 x2_1).f1⟩ : S53)) (k53_mkM _ _ _ (⟨(rd_T53 x0_1 x2_1).f0, (rd_T53 x0_1 x2_1).f1⟩ : S53) ) (fun _ hk => hk)).1
                rw [← Ny118.out] at HP12
                have HQ12 := Aside0.mk HP12
                clear hcl12 hcc12 hfr12 hM12 HP12
                refine start_ (n := 16) (S := fun w' => w'.cell? ⟨go8, ((x3_1).toNat * 2), none⟩ = some (.int .i64 ((rd_T53 x0_1 x3_1).f0)) ∧ w'.cell? ⟨go8, ((x3_1).toNat * 2) + 1, none⟩ = some (.int .i64 ((rd_T53 x0_1 x3_1).f1)) ∧ w'.cell? ⟨go8, ((x2_1).toNat * 2), none⟩ = some (.int .i64 ((rd_T53 x0_1 x2_1).f0)) ∧ w'.cell? ⟨go8, ((x2_1).toNat * 2) + 1, none⟩ = some (.int .i64 ((rd_T53 x0_1 x2_1).f1))) (ds := [13, 15]) #[false, false, false, false, false, false, false, false, false, false, false, false, false, false, false, false] (by kernel_rfl) rfl rfl ⟨hx115_0, hx115_1, hx116_0, hx116_1⟩ (fun hHeld => ?_); refine with_tabW api_Pair.tab3 api_Pair.bits3 (fun HT_ HW_ => ?_)
                generalize wr.drew = w10 at HO_0 HK HB GG8 HQ11 HQ12 hf8_0 hf8_1 hf9_0 hf9_1 hx115_0 hx115_1 hx116_0 hx116_1 hx8_0 hx8_1 hx9_0 hx9_1 hHeld ⊢
                refine pure_ (i := 0) (N := some 14) (v := ?_) (a' := ?_) #[true, false, false, false, false, false, false, false, false, false, false, false, false, false, false, false] rfl rfl (any_of HT_.out (by kernel_rfl)) (fun _ _ _ h => h) (Or.inl ⟨by rfl, ?_⟩) ?_ ?_
                rotate_left
                · intro w'
                  go_simp
                  with_reducible rfl
                rotate_left
                · simp only [Act.put, List.setIfInBounds_toArray, List.set_cons_zero, List.set_cons_succ, i64_w, i32_w]
                  rfl
                refine pure_ (i := 1) (N := some 15) (v := ?_) (a' := ?_) #[true, true, false, false, false, false, false, false, false, false, false, false, false, false, false, false] rfl rfl (any_of HT_.out (by kernel_rfl)) (fun _ _ _ h => h) (Or.inl ⟨by rfl, ?_⟩) ?_ ?_
                rotate_left
                · intro w'
                  go_simp
                  with_reducible rfl
                rotate_left
                · simp only [Act.put, List.setIfInBounds_toArray, List.set_cons_zero, List.set_cons_succ, i64_w, i32_w]
                  rfl
                refine pure_ (i := 2) (N := some 16) (v := ?_) (a' := ?_) #[true, true, true, false, false, false, false, false, false, false, false, false, false, false, false, false] rfl rfl (any_of HT_.out (by kernel_rfl)) (fun _ _ _ h => h) (Or.inl ⟨by rfl, ?_⟩) ?_ ?_
                rotate_left
                · intro w'
                  go_simp
                  with_reducible rfl
                rotate_left
                · simp only [Act.put, List.setIfInBounds_toArray, List.set_cons_zero, List.set_cons_succ, i64_w, i32_w]
                  rfl
                refine pure_ (i := 3) (N := some 17) (v := ?_) (a' := ?_) #[true, true, true, true, false, false, false, false, false, false, false, false, false, false, false, false] rfl rfl (any_of HT_.out (by kernel_rfl)) (fun _ _ _ h => h) (Or.inl ⟨by rfl, ?_⟩) ?_ ?_
                rotate_left
                · intro w'
                  go_simp
                  with_reducible rfl
                rotate_left
                · simp only [Act.put, List.setIfInBounds_toArray, List.set_cons_zero, List.set_cons_succ, i64_w, i32_w]
                  rfl
                refine pure_ (i := 4) (N := some 18) (v := ?_) (a' := ?_) #[true, true, true, true, true, false, false, false, false, false, false, false, false, false, false, false] rfl rfl (any_of HT_.out (by kernel_rfl)) (fun _ _ _ h => h) (Or.inl ⟨by rfl, ?_⟩) ?_ ?_
                rotate_left
                · intro w'
                  go_simp
                  with_reducible rfl
                rotate_left
                · simp only [Act.put, List.setIfInBounds_toArray, List.set_cons_zero, List.set_cons_succ, i64_w, i32_w]
                  rfl
                refine pure_ (i := 5) (N := some 19) (v := ?_) (a' := ?_) #[true, true, true, true, true, true, false, false, false, false, false, false, false, false, false, false] rfl rfl (any_of HT_.out (by kernel_rfl)) (fun _ _ _ h => h) (Or.inl ⟨by rfl, ?_⟩) ?_ ?_
                rotate_left
                · intro w'
                  go_simp
                  with_reducible rfl
                rotate_left
                · simp only [Act.put, List.setIfInBounds_toArray, List.set_cons_zero, List.set_cons_succ, i64_w, i32_w]
                  rfl
                refine pure_ (i := 6) (N := some 20) (v := ?_) (a' := ?_) #[true, true, true, true, true, true, true, false, false, false, false, false, false, false, false, false] rfl rfl (any_of HT_.out (by kernel_rfl)) (fun _ _ _ h => h) (Or.inl ⟨by rfl, ?_⟩) ?_ ?_
                rotate_left
                · intro w'
                  go_simp
                  with_reducible rfl
                rotate_left
                · simp only [Act.put, List.setIfInBounds_toArray, List.set_cons_zero, List.set_cons_succ, i64_w, i32_w]
                  rfl
                refine pure_ (i := 8) (N := some 22) (v := ?_) (a' := ?_) #[true, true, true, true, true, true, true, false, true, false, false, false, false, false, false, false] rfl rfl (any_of HT_.out (by kernel_rfl)) (fun _ _ _ h => h) (Or.inl ⟨by rfl, ?_⟩) ?_ ?_
                rotate_left
                · intro w'
                  go_simp
                  with_reducible rfl
                rotate_left
                · simp only [Act.put, List.setIfInBounds_toArray, List.set_cons_zero, List.set_cons_succ, i64_w, i32_w]
                  rfl
                refine pure_ (i := 9) (N := some 23) (v := ?_) (a' := ?_) #[true, true, true, true, true, true, true, false, true, true, false, false, false, false, false, false] rfl rfl (any_of HT_.out (by kernel_rfl)) (fun _ _ _ h => h) (Or.inl ⟨by rfl, ?_⟩) ?_ ?_
                rotate_left
                · intro w'
                  go_simp
                  with_reducible rfl
                rotate_left
                · simp only [Act.put, List.setIfInBounds_toArray, List.set_cons_zero, List.set_cons_succ, i64_w, i32_w]
                  rfl
                refine pure_ (i := 10) (N := some 24) (v := ?_) (a' := ?_) #[true, true, true, true, true, true, true, false, true, true, true, false, false, false, false, false] rfl rfl (any_of HT_.out (by kernel_rfl)) (fun _ _ _ h => h) (Or.inl ⟨by rfl, ?_⟩) ?_ ?_
                rotate_left
                · intro w'
                  go_simp
                  with_reducible rfl
                rotate_left
                · simp only [Act.put, List.setIfInBounds_toArray, List.set_cons_zero, List.set_cons_succ, i64_w, i32_w]
                  rfl
                refine take_ (i := 7) (N := some 21) (v := ?_) (a' := ?_) #[true, true, true, true, true, true, true, true, true, true, true, false, false, false, false, false] rfl rfl (take_ofW HT_.out HW_.out (by kernel_rfl)) (fun _ _ _ h => h) (Or.inl ⟨by rfl, ?_⟩) hHeld ?_ ?_
                rotate_left
                · rintro w' ⟨s0, s1, s2, s3⟩
                  go_simp
                  with_reducible rfl
                rotate_left
                · simp only [Act.put, List.setIfInBounds_toArray, List.set_cons_zero, List.set_cons_succ, i64_w, i32_w]
                  rfl
                refine take_ (i := 11) (N := some 25) (v := ?_) (a' := ?_) #[true, true, true, true, true, true, true, true, true, true, true, true, false, false, false, false] rfl rfl (take_ofW HT_.out HW_.out (by kernel_rfl)) (fun _ _ _ h => h) (Or.inl ⟨by rfl, ?_⟩) hHeld ?_ ?_
                rotate_left
                · rintro w' ⟨s0, s1, s2, s3⟩
                  go_simp
                  with_reducible rfl
                rotate_left
                · simp only [Act.put, List.setIfInBounds_toArray, List.set_cons_zero, List.set_cons_succ, i64_w, i32_w]
                  rfl
                refine pure_ (i := 12) (N := some 26) (v := ?_) (a' := ?_) #[true, true, true, true, true, true, true, true, true, true, true, true, true, false, false, false] rfl rfl (any_of HT_.out (by kernel_rfl)) (fun _ _ _ h => h) (Or.inl ⟨by rfl, ?_⟩) ?_ ?_
                rotate_left
                · intro w'
                  go_simp
                  with_reducible rfl
                rotate_left
                · simp only [Act.put, List.setIfInBounds_toArray, List.set_cons_zero, List.set_cons_succ, i64_w, i32_w]
                  rfl
                refine last_ (i := 13) (N := none) #[true, true, true, true, true, true, true, true, true, true, true, true, true, true, false, false] rfl rfl (one_of HT_.out (by kernel_rfl)) (by decide) (fun K hK => ?_)
                refine skip_ (w1 := ?_) (by rfl) rfl ?_ ?_
                rotate_left
                · go_simp
                  rfl
                refine hK.out _ _ ?_
                clear hK K
                refine pure_ (i := 14) (N := some 27) (v := ?_) (a' := ?_) #[true, true, true, true, true, true, true, true, true, true, true, true, true, true, true, false] rfl rfl (any_of HT_.out (by kernel_rfl)) (fun _ _ _ h => h) (Or.inl ⟨by rfl, ?_⟩) ?_ ?_
                rotate_left
                · intro w'
                  go_simp
                  with_reducible rfl
                rotate_left
                · simp only [Act.put, List.setIfInBounds_toArray, List.set_cons_zero, List.set_cons_succ, i64_w, i32_w]
                  rfl
                have hp_ : (x3_1 : Int).toNat * 2 ≠ (x2_1 : Int).toNat * 2 := by have h1_ := of_decide_eq_true c3b0; have h2_ := of_decide_eq_true c6b0; omega
                have hq0_ : (w10.setCell ⟨go8, (x2_1 : Int).toNat * 2, none⟩ (.int .i64 ((rd_T53 x0_1 x3_1).f0))).cell? ⟨go8, (x3_1 : Int).toNat * 2, none⟩ = some (.int .i64 ((rd_T53 x0_1 x3_1).f0)) := (World.cell?_setCell_other _ _ _ _ (fun e_ => hp_ (by injection e_ with _ e_ _; first | exact e_ | exact e_.symm))).trans hx115_0
                have hq1_ : ((w10.setCell ⟨go8, (x2_1 : Int).toNat * 2, none⟩ (.int .i64 ((rd_T53 x0_1 x3_1).f0))).setCell ⟨go8, (x2_1 : Int).toNat * 2 + 1, none⟩ (.int .i64 ((rd_T53 x0_1 x3_1).f1))).cell? ⟨go8, (x3_1 : Int).toNat * 2 + 1, none⟩ = some (.int .i64 ((rd_T53 x0_1 x3_1).f1)) := (World.cell?_setCell_other _ _ _ _ (fun e_ => hp_ (by injection e_ with _ e_ _; omega))).trans ((World.cell?_setCell_other _ _ _ _ (fun e_ => hp_ (by injection e_ with _ e_ _; omega))).trans hx115_1)
                have hr0_ := blk_frozen GG8.out ((x3_1 : Int).toNat * 2)
                have hr1_ := blk_frozen GG8.out ((x3_1 : Int).toNat * 2 + 1)
                clear hp_
                refine last_ (i := 15) (N := none) #[true, true, true, true, true, true, true, true, true, true, true, true, true, true, true, true] rfl rfl (one_of HT_.out (by kernel_rfl)) (by decide) (fun K hK => ?_)
                refine skip_ (w1 := ?_) (by rfl) rfl ?_ ?_
                rotate_left
                · go_simp
                  rfl
                refine hK.out _ _ ?_
                clear hK K
                refine done_ (done_of HT_.out (by kernel_rfl)) ?_
                try go_wp2
                (try simp only [← hl0_1])
                go_roundg k1
                case measure => have := HK1.out; omega
                case rel => exact ⟨(y118), (wrap64 (x2_1 + 1)), (wrap64 (x3_1 - 1)), (by first | rfl | (simp; done) | (simp [*]; done)), (by first | rfl | (simp; done) | (simp [*]; done)), H', ⟨by have := HK1.out; omega⟩, ⟨by (try simp only [hl0_1]); (with_reducible repeat (first | apply Kd.R_alloc | apply Kd.R_drewN | apply Kd.R_drew)); exact HQ12.out⟩, ⟨by repeat (first | (with_reducible first | exact HK.out | apply Kept.alloc | apply Kept.drewN | apply Kept.drew | refine Kept.setCell ?_ HMgo8.out _ | refine Kept.setCell ?_ HMgo8.out _ | refine Kept.setCell ?_ HMgo8.out _ | refine Kept.setCell ?_ HMgo8.out _) | exact HK.out)⟩, ⟨by repeat (first | (with_reducible first | exact HB.out | apply below_alloc | apply pw_below_drewN | apply below_drew1 | refine below_set ?_ GB8.out | refine below_set ?_ GB8.out | refine below_set ?_ GB8.out | refine below_set ?_ GB8.out) | exact HB.out)⟩⟩
              · rw [if_neg c7] at H
                exact absurd H (by simp)
            · rw [if_neg c6] at H
              exact absurd H (by simp)
          · rw [if_neg c5] at H
            exact absurd H (by simp)
        · rw [if_neg c4] at H
          exact absurd H (by simp)
      · rw [if_neg c3] at H
        have c3b0 : decide (x2_1 < x3_1) = false := decide_eq_false c3
        clear c3
        obtain rfl := Option.some.inj H
        go_wp2
        first | go_end0 | ((try simp only [Exit.inBlock, Exit.then]); refine bodyPost_ret (results_none rfl _ _ _) rfl ?_)
        exact ⟨by first | rfl | (simp [errW_none, errW_some] <;> rfl) | (simp [*, errW_none, errW_some] <;> rfl), (by first | exact (by (with_reducible repeat (first | apply Kd.R_alloc | apply Kd.R_drewN | apply Kd.R_drew)); exact HO_0.out) | (simp only [hl0_1]; exact (by (with_reducible repeat (first | apply Kd.R_alloc | apply Kd.R_drewN | apply Kd.R_drew)); exact HO_0.out))), by repeat (first | (with_reducible first | exact HB.out | apply below_alloc | apply pw_below_drewN | apply below_drew1) | exact HB.out), by repeat (first | (with_reducible first | exact HK.out | apply Kept.alloc | apply Kept.drewN | apply Kept.drew) | exact HK.out)⟩

/-! ### pairs_Turn: function 26 -/
def pairs_Turn.l0 : Nat → List (S53) → List (S53) → Int → Int → Option ((List (S53)))
  | 0, _, _, _, _ => none
  | k + 1, x3, x9, x10, x11 => if x11 < x10 then (if 0 ≤ x11 then (if x11 < (x9.length : Int) then (if x11 < (x3.length : Int) then (pairs_Turn.l0 k (x3.set (x11 : Int).toNat (⟨(rd_T53 x9 x11).f1, (rd_T53 x9 x11).f0⟩ : S53)) x9 x10 (wrap64 (x11 + 1))) else (none)) else (none)) else (none)) else (some x3)
def pairs_Turn.f (k : Nat) (l0 : List (S53)) : Option ((List (S53))) := if 0 ≤ (l0.length : Int) then (if ((l0.length : Int) : Int).toNat ≤ 17592186044416 then (pairs_Turn.l0 k (List.replicate ((l0.length : Int) : Int).toNat z53) l0 (l0.length : Int) 0) else (none)) else (none)
theorem pairs_Turn.mono_l : ∀ k, (∀ y0 y1 y2 y3, LeO (pairs_Turn.l0 k y0 y1 y2 y3) (pairs_Turn.l0 (k + 1) y0 y1 y2 y3))
  | 0 => fun _ _ _ _ r h => by simp [pairs_Turn.l0] at h
  | k + 1 => by
    have ih0 := pairs_Turn.mono_l k
    · intro y0 y1 y2 y3
      unfold pairs_Turn.l0
      repeat' first
      | (with_reducible exact ih0 _ _ _ _)
      | (with_reducible exact LeO.refl _)
      | (with_reducible exact LeO.none _)
      | (with_reducible refine LeO.ite ?_ ?_)
      | (with_reducible refine LeO.bind ?_ (fun _ => ?_))
      | exact ih0 _ _ _ _
      | exact LeO.none _
      | refine LeO.ite ?_ ?_
      | refine LeO.bind ?_ (fun _ => ?_)
theorem pairs_Turn.mono : ∀ a0 k, LeO (pairs_Turn.f k a0) (pairs_Turn.f (k + 1) a0) := by
  intro a0 k
  have ih0 := pairs_Turn.mono_l k
  unfold pairs_Turn.f
  repeat' first
      | (with_reducible exact ih0 _ _ _ _)
      | (with_reducible exact LeO.refl _)
      | (with_reducible exact LeO.none _)
      | (with_reducible refine LeO.ite ?_ ?_)
      | (with_reducible refine LeO.bind ?_ (fun _ => ?_))
      | exact ih0 _ _ _ _
      | exact LeO.none _
      | refine LeO.ite ?_ ?_
      | refine LeO.bind ?_ (fun _ => ?_)
set_option maxHeartbeats 8000000 in
set_option maxRecDepth 100000 in
theorem pairs_Turn.calls (k : Nat) (A0 : Option Addr) (c0 : Nat) (l0 : List (S53)) (r : List (S53)) (w : World) (hr0 : Kd.C k53 w A0 l0.length l0) (hc0 : l0.length ≤ c0) (h : pairs_Turn.f k l0 = some r) :
    Calls Try.prog 26 #[.slice A0 l0.length c0] w fun e w' => ∃ v0_ : Value, e = .returned (v0_) ∧ Kd.R k53 53 w' w.heap.size (fun _ => True) v0_ r ∧ Below w.heap.size w w' := by
  have hu53 := Try.underlying53
  have HR0 := Aside0.mk hr0
  have HC0 := Aside0.mk hc0
  clear hr0 hc0
  have HB := Aside0.mk (Below.refl w.heap.size w)
  have H : (if 0 ≤ (l0.length : Int) then (if ((l0.length : Int) : Int).toNat ≤ 17592186044416 then (pairs_Turn.l0 k (List.replicate ((l0.length : Int) : Int).toNat z53) l0 (l0.length : Int) 0) else (none)) else (none)) = some r := h
  clear h
  by_cases c2 : 0 ≤ (l0.length : Int)
  · rw [if_pos c2] at H
    have c2b0 := eq_true c2
    have c2b1 : decide (0 ≤ (l0.length : Int)) = true := decide_eq_true c2
    clear c2
    by_cases c3 : ((l0.length : Int) : Int).toNat ≤ 17592186044416
    · rw [if_pos c3] at H
      have c3b0 := eq_true c3
      have c3b1 : decide (((l0.length : Int) : Int).toNat ≤ 17592186044416) = true := decide_eq_true c3
      clear c3
      obtain ⟨y119, hy119⟩ : ∃ y_ : List (S53), y_ = (List.replicate ((l0.length : Int) : Int).toNat z53) := ⟨_, rfl⟩
      replace H : (pairs_Turn.l0 k y119 l0 (l0.length : Int) 0) = some r := by first | (rw [hy119]; with_reducible exact H) | (have H2_ := (Option.bind_some _ _).symm.trans H; rw [hy119]; with_reducible exact H2_) | (have H2_ := (Option.bind_some _ _).symm.trans H; with_reducible exact H2_) | with_reducible exact H | (rw [hy119]; exact H) | exact H
      have Ny119 := Aside0.mk hy119
      clear hy119
      have H' := Aside0.mk H
      clear H
      go_enter Try.func26, Try.ntmps26
      go_wp2_with (first | ((with_reducible refine gate_dst (N := 8) rfl ?_); refine Kd.R_make k53 _ 53 rfl (N := 8) rfl 31 _ _ rfl (l0.length : Int) rfl rfl Try.underlying31 (.agg #[(.int .i64 0), (.int .i64 0)]) 16 info53 rfl (by decide) (by omega) z53 (ok := fun _ => True) (okp := fun _ => True) (k53_mkM _ _ _ z53 ) (fun _ hk => hk) trivial (of_decide_eq_true (by first | (with_reducible assumption) | assumption)) (Nat.le_trans (Nat.mul_le_mul_right _ (of_decide_eq_true (by first | (with_reducible assumption) | assumption) : (l0.length : Int).toNat ≤ 17592186044416)) (by omega)) (Below.refl _ _) (Nat.le_refl _) ?_; intro v120 w4 ho5 hb hg_ hnew_; (try clear hg_); (try clear hnew_); (first | rw [← Ny119.out] at ho5 | (simp only [Int.reduceToNat] at ho5; rw [← Ny119.out] at ho5)); have n0_ := Aside0.mk (Kd.R_lower ho5 (below_size (by repeat (first | (with_reducible first | exact HB.out | apply below_alloc | apply pw_below_drewN | apply below_drew1) | exact HB.out)))); have n1_ := Aside0.mk (below_step (by repeat (first | (with_reducible first | exact HB.out | apply below_alloc | apply pw_below_drewN | apply below_drew1) | exact HB.out)) hb); clear HB; have HO121 := n0_; have HB := n1_; clear n0_ n1_; (try clear hb); (try clear ho5)))
      go_loopg [11] k (fun kq v11 w' => ∃ (x3_1 : List (S53)) (x11_1 : Int), v11 = .int .i64 x11_1 ∧ Aside0 (pairs_Turn.l0 kq x3_1 l0 (l0.length : Int) x11_1 = some r) ∧ Aside0 (kq ≤ k) ∧ Aside0 (Kd.R k53 53 w' w.heap.size (fun _ => True) v120 x3_1) ∧ Aside0 (Below w.heap.size w w'))
      case atStart => exact ⟨(y119), (0), (by first | rfl | (simp; done) | (simp [*]; done)), H', ⟨Nat.le_refl _⟩, ⟨by (with_reducible repeat (first | apply Kd.R_alloc | apply Kd.R_drewN | apply Kd.R_drew)); exact HO121.out⟩, ⟨by repeat (first | (with_reducible first | exact HB.out | apply below_alloc | apply pw_below_drewN | apply below_drew1) | exact HB.out)⟩⟩
      case round =>
        clear H'
        try clear c2
        try clear c2b0
        try clear c2b1
        try clear p2
        try clear c3
        try clear c3b0
        try clear c3b1
        obtain ⟨x3_1, x11_1, rfl, HA, HK1, HO_3, HB⟩ := hrel
        cases gk with
        | zero => exact absurd HA.out (by simp [pairs_Turn.l0])
        | succ k1 =>
          have H := HA.out
          clear HA
          simp only [pairs_Turn.l0] at H
          by_cases c6 : x11_1 < (l0.length : Int)
          · rw [if_pos c6] at H
            have c6b0 : decide (x11_1 < (l0.length : Int)) = true := decide_eq_true c6
            clear c6
            by_cases c7 : 0 ≤ x11_1
            · rw [if_pos c7] at H
              have c7b0 : decide (0 ≤ x11_1) = true := decide_eq_true c7
              clear c7
              by_cases c8 : x11_1 < (l0.length : Int)
              · rw [if_pos c8] at H
                have c8b0 : decide (x11_1 < (l0.length : Int)) = true := decide_eq_true c8
                clear c8
                by_cases c9 : x11_1 < (x3_1.length : Int)
                · rw [if_pos c9] at H
                  have c9b0 : decide (x11_1 < (x3_1.length : Int)) = true := decide_eq_true c9
                  clear c9
                  obtain ⟨y124, hy124⟩ : ∃ y_ : List (S53), y_ = (x3_1.set (x11_1 : Int).toNat (⟨(rd_T53 l0 x11_1).f1, (rd_T53 l0 x11_1).f0⟩ : S53)) := ⟨_, rfl⟩
                  replace H : (pairs_Turn.l0 k1 y124 l0 (l0.length : Int) (wrap64 (x11_1 + 1))) = some r := by first | (rw [hy124]; with_reducible exact H) | (have H2_ := (Option.bind_some _ _).symm.trans H; rw [hy124]; with_reducible exact H2_) | (have H2_ := (Option.bind_some _ _).symm.trans H; with_reducible exact H2_) | with_reducible exact H | (rw [hy124]; exact H) | exact H
                  have Ny124 := Aside0.mk hy124
                  clear hy124
                  have H' := Aside0.mk H
                  clear H
                  have p122 : 0 ≤ (x11_1 : Int) := of_decide_eq_true (by first | (with_reducible assumption) | assumption)
                  have q122 : x11_1 < (l0.length : Int) := of_decide_eq_true (by first | (with_reducible assumption) | assumption)
                  obtain ⟨ad122, e122, hx122_0, hx122_1⟩ := at_T53 HR0.out x11_1 p122 q122
                  cases e122
                  replace hx122_0 := (HB.out.cell (World.block_lt_of_cell? w _ hx122_0)).trans hx122_0
                  replace hx122_1 := (HB.out.cell (World.block_lt_of_cell? w _ hx122_1)).trans hx122_1
                  replace p122 := eq_true p122
                  replace q122 := eq_true q122
                  go_wp2_with (first | ((with_reducible refine gate_dst (N := 5) rfl ?_); refine box_event ?hg (N := 5) ?hd (cs := #[.int .i64 0, .int .i64 0]) (t := 53) ?hr ?_; (case hd => rfl); (case hg => rfl); (case hr => first | (go_simp; done) | (go_simp; rfl)); intro gb123 hg w11 hbox hb; have n0_ := Aside0.mk (Kd.R_below (Kd.R_elderB (by (with_reducible repeat (first | apply Kd.R_alloc | apply Kd.R_drewN | apply Kd.R_drew)); exact HO_3.out) gb123 (Nat.le_of_eq hg.symm)) hb); have n1_ := Aside0.mk (below_step (by repeat (first | (with_reducible first | exact HB.out | apply below_alloc | apply pw_below_drewN | apply below_drew1) | exact HB.out)) hb); have n2_ := Aside0.mk (hbox); have n3_ := Aside0.mk ((by rw [hg]; exact (below_size (by repeat (first | (with_reducible first | exact HB.out | apply below_alloc | apply pw_below_drewN | apply below_drew1) | exact HB.out))) : w.heap.size ≤ gb123)); have n4_ := Aside0.mk ((by rw [hg]; exact (below_size (by repeat (first | (with_reducible first | exact HB.out | apply below_alloc | apply pw_below_drewN | apply below_drew1) | exact HB.out))) : w.heap.size ≤ gb123)); clear HO_3; clear HB; have HO_3 := n0_; have HB := n1_; have BK123 := n2_; have GW123 := n3_; have GE123 := n4_; clear n0_ n1_ n2_ n3_ n4_; (try clear hb); (try clear hbox); (try clear hg); have hcz12_0 : w11.cell? ⟨gb123, 0, none⟩ = some (.int .i64 0) := (blk_cell BK123.out 0).trans rfl; have hcz12_1 : w11.cell? ⟨gb123, 1, none⟩ = some (.int .i64 0) := (blk_cell BK123.out 1).trans rfl; have hfz12_0 := blk_frozen BK123.out 0; have hfz12_1 := blk_frozen BK123.out 1) | ((with_reducible refine gate_store (t := 53) (p := 5) rfl ?_); refine store_event (t := 53) (p := 5) (v := ?vo_w13) (w1 := ((w11.setCell ⟨gb123, 0, none⟩ (.int .i64 ((rd_T53 l0 x11_1).f0))).setCell ⟨gb123, 1, none⟩ (.int .i64 ((rd_T53 l0 x11_1).f1)))) ?hg ?ho ?hn ?hr ?_; (case ho => rfl); (case hg => rfl); (case hn => rfl); (case hr => first | (go_simp; done) | (go_simp; rfl)); intro w13 hw; have n0_ : Aside0 (Kd.R k53 53 w13 w.heap.size (fun k_ => k_ ≠ gb123) v120 x3_1) := ⟨(by rw [hw]; exact (by (with_reducible repeat (first | apply Kd.R_alloc | apply Kd.R_drewN | apply Kd.R_drew)); exact Kd.R_mono (Kd.R_far (p := ⟨gb123, 1, none⟩) (Kd.R_far (p := ⟨gb123, 0, none⟩) (Kd.R_mono HO_3.out (fun k_ hk => (⟨hk, hk.2⟩ : _ ∧ k_ ≠ gb123))) (fun _ hk => hk.2) (.int .i64 ((rd_T53 l0 x11_1).f0))) (fun _ hk => hk.2) (.int .i64 ((rd_T53 l0 x11_1).f1))) (fun _ hk => hk.1.2)))⟩; have n1_ : Aside0 (w13.heap[gb123]? = some (.cells #[.int .i64 ((rd_T53 l0 x11_1).f0), .int .i64 ((rd_T53 l0 x11_1).f1)] 53 (0, 0))) := ⟨(by rw [hw]; exact (by (with_reducible repeat (first | refine blk_drewN ?_ _ | refine blk_drew ?_ | refine blk_alloc ?_ _)); refine blk_put (cs := #[.int .i64 ((rd_T53 l0 x11_1).f0), .int .i64 0]) ?_ 1 _ rfl; (with_reducible repeat (first | refine blk_drewN ?_ _ | refine blk_drew ?_ | refine blk_alloc ?_ _)); refine blk_put (cs := #[.int .i64 0, .int .i64 0]) ?_ 0 _ rfl; (with_reducible repeat (first | refine blk_drewN ?_ _ | refine blk_drew ?_ | refine blk_alloc ?_ _)); exact BK123.out))⟩; have n2_ : Aside0 (Below w.heap.size w w13) := ⟨(by rw [hw]; exact (by repeat (first | (with_reducible first | exact HB.out | apply below_alloc | apply pw_below_drewN | apply below_drew1 | refine below_set ?_ GE123.out) | exact HB.out)))⟩; clear hw; clear HO_3; clear BK123; clear HB; have HO_3 := n0_; have BK123 := n1_; have HB := n2_; clear n0_ n1_ n2_; have hcz14_0 : w13.cell? ⟨gb123, 0, none⟩ = some (.int .i64 ((rd_T53 l0 x11_1).f0)) := (blk_cell BK123.out 0).trans rfl; have hcz14_1 : w13.cell? ⟨gb123, 1, none⟩ = some (.int .i64 ((rd_T53 l0 x11_1).f1)) := (blk_cell BK123.out 1).trans rfl; have hfz14_0 := blk_frozen BK123.out 0; have hfz14_1 := blk_frozen BK123.out 1; have p10 : 0 ≤ (x11_1 : Int) := of_decide_eq_true (by first | (with_reducible assumption) | assumption); have q10 : (x11_1 : Int) < ((x3_1.length : Int) : Int) := of_decide_eq_true (by first | (with_reducible assumption) | assumption); obtain ⟨go10, co10, eo10, gb10, gl10, cl10, HG10⟩ := Kd.R_form HO_3.out (by omega); (first | cases eo10 | (injection eo10 with ea_ en_ ec_; (first | subst ea_ | (injection ea_ with ea_; subst ea_)); subst ec_; clear en_)); have GB10 := Aside0.mk gb10; have GG10 := Aside0.mk HG10; clear gb10 gl10 HG10; obtain ⟨ce10, hcl10, hM10, hcc10, hfr10⟩ := Kd.R_elem HO_3.out z53 (x11_1 : Int) p10 q10; obtain rfl := k53_openM hM10; have hx10_0 : w13.cell? ⟨go10, (x11_1 : Int).toNat * 2, none⟩ = some (.int .i64 ((rd_T53 x3_1 x11_1).f0)) := hcc10 0 _ rfl; have hx10_1 : w13.cell? ⟨go10, (x11_1 : Int).toNat * 2 + 1, none⟩ = some (.int .i64 ((rd_T53 x3_1 x11_1).f1)) := hcc10 1 _ rfl; have hf10_0 : w13.frozen? ⟨go10, (x11_1 : Int).toNat * 2, none⟩ = false := hfr10 0; have hf10_1 : w13.frozen? ⟨go10, (x11_1 : Int).toNat * 2 + 1, none⟩ = false := hfr10 1; (try clear hcl10); (try clear hcc10); (try clear hfr10); (try clear hM10); replace p10 := eq_true p10; replace q10 := eq_true q10; have HX15 := Aside0.mk (show Kd.R k53 53 w13 w.heap.size (fun k_ => k_ ≠ gb123) (.slice (some ⟨go10, 0, none⟩) x3_1.length co10) x3_1 from (by (with_reducible repeat (first | apply Kd.R_alloc | apply Kd.R_drewN | apply Kd.R_drew)); exact HO_3.out)); obtain ⟨ce15, hcl15, hM15, hcc15, hfr15⟩ := Kd.R_elem HX15.out z53 (x11_1 : Int) (of_decide_eq_true (by first | (with_reducible assumption) | assumption)) (by have h_ : (x11_1 : Int) < ((x3_1.length : Int) : Int) := of_decide_eq_true (by first | (with_reducible assumption) | assumption); first | exact h_ | (have e_ := (Kd.R_reads' HO_3.out).1; omega) | simpa using h_); obtain rfl := k53_openM hM15; have HP15 := Kd.R_seg HX15.out (x11_1 : Int) (of_decide_eq_true (by first | (with_reducible assumption) | assumption)) (by have h_ : (x11_1 : Int) < ((x3_1.length : Int) : Int) := of_decide_eq_true (by first | (with_reducible assumption) | assumption); first | exact h_ | (have e_ := (Kd.R_reads' HO_3.out).1; omega) | simpa using h_) (seg := [.int .i64 ((rd_T53 l0 x11_1).f1), .int .i64 ((rd_T53 l0 x11_1).f0)]) (j := 0) hcl15 hcc15 (show 2 ≤ 2 from by decide) (x' := (⟨(rd_T53 l0 x11_1).f1, (rd_T53 l0 x11_1).f0⟩ : S53)) (k53_mkM _ _ _ (⟨(rd_T53 l0 x11_1).f1, (rd_T53 l0 x11_1).f0⟩ : S53) ) (fun _ hk => hk); have hx15_0 := hcc15 0 _ rfl; (try simp only [show (k53).sz = 2 from rfl, Nat.mul_one, Nat.add_zero] at hx15_0); have hf15_0 := hfr15 0; (try simp only [show (k53).sz = 2 from rfl, Nat.mul_one, Nat.add_zero] at hf15_0); have hx15_1 := hcc15 1 _ rfl; (try simp only [show (k53).sz = 2 from rfl, Nat.mul_one, Nat.add_zero] at hx15_1); have hf15_1 := hfr15 1; (try simp only [show (k53).sz = 2 from rfl, Nat.mul_one, Nat.add_zero] at hf15_1); (try clear hcl15); (try clear hcc15); (try clear hfr15); (try clear hM15)) | ((with_reducible refine gate_store (t := 53) (p := 23) rfl ?_); refine store_event (t := 53) (p := 23) (v := ?vo_w16) (w1 := ((w13.setCell ⟨go10, (x11_1 : Int).toNat * 2, none⟩ (.int .i64 ((rd_T53 l0 x11_1).f1))).setCell ⟨go10, (x11_1 : Int).toNat * 2 + 1, none⟩ (.int .i64 ((rd_T53 l0 x11_1).f0)))) ?hg ?ho ?hn ?hr ?_; (case ho => rfl); (case hg => rfl); (case hn => rfl); (case hr => first | (go_simp; done) | (go_simp; rfl)); intro w16 hw; have hg : w13.grownBy w16 (some go10) := (by rw [hw]; exact HP15.2); have hp_ : Kd.R k53 53 w16 w.heap.size (fun k_ => k_ ≠ gb123) (.slice (some ⟨go10, 0, none⟩) x3_1.length co10) y124 := (by rw [hw, Ny124.out]; exact HP15.1); clear HP15; have n0_ := Aside0.mk (hp_); have n1_ := Aside0.mk (blk_grown (g := gb123) (o := .cells #[.int .i64 ((rd_T53 l0 x11_1).f0), .int .i64 ((rd_T53 l0 x11_1).f1)] 53 (0, 0)) (by (with_reducible repeat (first | refine blk_drewN ?_ _ | refine blk_drew ?_ | refine blk_alloc ?_ _)); exact BK123.out) hg (Kd.R_away HO_3.out (fun _ hk => hk))); have n2_ := Aside0.mk ((by rw [hw]; exact below_set (below_set (HB.out) GB10.out) GB10.out : Below w.heap.size w w16)); clear HO_3; clear BK123; clear HB; have HO_3 := n0_; have BK123 := n1_; have HB := n2_; clear n0_ n1_ n2_; (try clear hg); (try clear hw); (try clear hp_)))
                  go_roundg k1
                  case measure => have := HK1.out; omega
                  case rel => exact ⟨(y124), (wrap64 (x11_1 + 1)), (by first | rfl | (simp; done) | (simp [*]; done)), H', ⟨by have := HK1.out; omega⟩, ⟨by (with_reducible repeat (first | apply Kd.R_alloc | apply Kd.R_drewN | apply Kd.R_drew)); exact Kd.R_mono HO_3.out (fun _ hk => trivial)⟩, ⟨by repeat (first | (with_reducible first | exact HB.out | apply below_alloc | apply pw_below_drewN | apply below_drew1 | refine below_set ?_ GE123.out) | exact HB.out)⟩⟩
                · rw [if_neg c9] at H
                  exact absurd H (by simp)
              · rw [if_neg c8] at H
                exact absurd H (by simp)
            · rw [if_neg c7] at H
              exact absurd H (by simp)
          · rw [if_neg c6] at H
            have c6b0 : decide (x11_1 < (l0.length : Int)) = false := decide_eq_false c6
            clear c6
            obtain rfl := Option.some.inj H
            go_wp2
            go_ret
            exact ⟨_, by first | rfl | (simp [errW_none, errW_some] <;> rfl) | (simp [*, errW_none, errW_some] <;> rfl), by (with_reducible repeat (first | apply Kd.R_alloc | apply Kd.R_drewN | apply Kd.R_drew)); exact HO_3.out, by repeat (first | (with_reducible first | exact HB.out | apply below_alloc | apply pw_below_drewN | apply below_drew1) | exact HB.out)⟩
    · rw [if_neg c3] at H
      exact absurd H (by simp)
  · rw [if_neg c2] at H
    exact absurd H (by simp)

end Go.Proofs.Yteijoilcffhomaa.POnpFar
