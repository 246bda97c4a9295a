/- What the given program's functions come to, each a Lean function and the walk that shows it: no condition beside those that each theorem names. -/
import Derived.Test.YteijoilcffhomaaPOnpFarx0
import Derived.Test.YteijoilcffhomaaPOnpFarx2
import Derived.Test.YteijoilcffhomaaPOnpFarx3
namespace Go.Proofs.Yteijoilcffhomaa.POnpFar
open Go.RowKit Go.Proofs.YteijoilcffhomaaW.PrintWords Go.Proofs.YteijoilcffhomaaW.PrintLast Go.Proofs.YteijoilcffhomaaW.PrintMore
attribute [local go_sem] max2_int min2_int max_two min_two max_three min_three max_four min_four   -- for this text's walks alone
set_option linter.unusedVariables false
set_option linter.unusedSimpArgs false

/-! ### onp_Run: function 17, by hand -/
theorem infoP53_ : (Try.prog.info? 53).map (fun i => (i.zero, i.size, i.bytes)) = some (some (.agg #[.int .i64 0, .int .i64 0]), 2, 16) := by kernel_rfl
/-- A run's pairs, the last one first. -/
def desc (i j : Int) : Nat → List S53
  | 0 => []
  | n + 1 => ⟨i + n, j + n⟩ :: desc i j n
theorem desc_step (i j : Int) {e : Int} (h : 0 ≤ e) : desc i j (e + 1).toNat = ⟨i + e, j + e⟩ :: desc i j e.toNat := by
  rw [show (e + 1).toNat = e.toNat + 1 by omega, desc, Int.toNat_of_nonneg h]
/-- All runs' pairs. -/
def prs : List (Int × Int × Int) → List S53
  | [] => []
  | r :: t => desc r.1 r.2.1 r.2.2.toNat ++ prs t
theorem prs_snoc : ∀ (l : List (Int × Int × Int)) (r : Int × Int × Int), prs (l ++ [r]) = prs l ++ desc r.1 r.2.1 r.2.2.toNat
  | [], r => by simp [prs]
  | q :: l, r => by show desc _ _ _ ++ prs (l ++ [r]) = _; rw [prs_snoc l r, ← List.append_assoc]; rfl
theorem prs_append : ∀ (l t : List (Int × Int × Int)), prs (l ++ t) = prs l ++ prs t
  | [], t => rfl
  | q :: l, t => by show desc _ _ _ ++ prs (l ++ t) = _; rw [prs_append l t, ← List.append_assoc]; rfl
theorem search_bd {x y : List Int} (hxy : x.length ≤ y.length) : ∀ {k p : Nat} {st : Int} {q : Nat} {rl : List (Int × Int × Int)} {so : Int}, onp_search.l0 k x y p st = some (q, rl, so) → ∀ r, r ∈ rl → 0 ≤ r.1 ∧ r.1 ≤ x.length ∧ 0 ≤ r.2.1 ∧ r.2.1 ≤ y.length ∧ 0 < r.2.2 ∧ r.2.2 ≤ x.length
  | 0, _, _, _, _, _, h => by simp [onp_search.l0] at h
  | k + 1, p, st, q, rl, so, h => by
    unfold onp_search.l0 at h
    by_cases hp : p ≤ x.length
    · rw [if_pos hp] at h
      split at h
      · simp only [Option.some.injEq, Prod.mk.injEq] at h
        obtain ⟨_, rfl, _⟩ := h
        exact (Bd_atL (pr_bd x y hxy (p + 1) (by omega))).2.2
      · exact search_bd hxy h
    · rw [if_neg hp] at h; cases h
def onp_Run.g (k : Nat) (x y : List Int) : Option (List S53 × Int) := (onp_search.f k x y).bind fun s => if (prs s.2.1).length ≤ 1000000000 then (api_Pair.f k (prs s.2.1)).bind fun l => some (l, s.2.2) else none
def onp_Run.f (k : Nat) (l0 l1 : List Int) : Option (List S53 × Int) := if l0.length ≤ 1000000 ∧ l1.length ≤ 1000000 then (if l1.length < l0.length then (onp_Run.g k l1 l0).bind fun r => (pairs_Turn.f k r.1).bind fun t => some (t, r.2) else onp_Run.g k l0 l1) else none
theorem onp_Run.mono_g (x y : List Int) (k : Nat) : LeO (onp_Run.g k x y) (onp_Run.g (k + 1) x y) := LeO.bind (onp_search.mono _ _ _) fun _ => LeO.ite (LeO.bind (api_Pair.mono _ _) fun _ => LeO.refl _) (LeO.refl _)
theorem onp_Run.mono : ∀ a0 a1 k, LeO (onp_Run.f k a0 a1) (onp_Run.f (k + 1) a0 a1) := fun a0 a1 k => LeO.ite (LeO.ite (LeO.bind (onp_Run.mono_g _ _ _) fun _ => LeO.bind (pairs_Turn.mono _ _) fun _ => LeO.refl _) (onp_Run.mono_g _ _ _)) (LeO.refl _)
theorem Way.nil_none {w : World} {q : Option Addr} (h : Way w q []) : q = none := h
theorem Way.grown {w W : World} {q : Option Addr} {l : List (Int × Int × Int)} (h : Way w q l) {row : Option Nat} (hg : w.grownBy W row) {t : Nat} (ht : ∀ k, row = some k → ∃ cells, w.heap[k]? = some (.cells cells t (0, 0))) (h2 : t ≠ 51) : Way W q l :=
  Way.move (fun _ _ hk => blk_grown hk hg (fun e => by obtain ⟨cells, hc⟩ := ht _ e.symm; exact blk_ne hk hc (Ne.symm h2) rfl)) h
set_option maxHeartbeats 8000000 in
set_option maxRecDepth 100000 in
theorem onp_Run.calls (k : Nat) (A0 : Option Addr) (c0 : Nat) (l0 : List Int) (A1 : Option Addr) (c1 : Nat) (l1 : List Int) (r1 : List S53) (r2 : Int) (w : World) (hr0 : Kd.C (Kd.int .i64) w A0 l0.length l0) (hc0 : l0.length ≤ c0) (hr1 : Kd.C (Kd.int .i64) w A1 l1.length l1) (hc1 : l1.length ≤ c1) (h : onp_Run.f k l0 l1 = some (r1, r2)) :
    Calls Try.prog 17 #[.slice A0 l0.length c0, .slice A1 l1.length c1] w fun e w' => ∃ v0_ : Value, e = .returned (.tuple #[v0_, .int .i64 r2]) ∧ Kd.R k53 53 w' w.heap.size (fun _ => True) v0_ r1 ∧ Below w.heap.size w w' := by
  have hu51 := Try.underlying51
  have hu53 := Try.underlying53
  have q41 : ∀ (w : World) (a : Option Addr), (binOp .neq 41 (.pointer a) (.pointer none)).run Try.prog w = .ok (.bool a.isSome) w := fun w a => by cases a <;> kernel_rfl
  unfold onp_Run.f at h
  by_cases hl : l0.length ≤ 1000000 ∧ l1.length ≤ 1000000
  · rw [if_pos hl] at h
    obtain ⟨hl0, hl1⟩ := hl
    have HR0 := Aside0.mk hr0
    have HR1 := Aside0.mk hr1
    have HC0 := Aside0.mk hc0
    have HC1 := Aside0.mk hc1
    have HB := Aside0.mk (Below.refl w.heap.size w)
    clear hr0 hr1 hc0 hc1
    by_cases hlt : l1.length < l0.length
    · rw [if_pos hlt] at h
      rw [Option.bind_eq_some_iff] at h
      obtain ⟨⟨rv, so⟩, hg, h⟩ := h
      rw [Option.bind_eq_some_iff] at h
      obtain ⟨tv, htv, h⟩ := h
      simp only [Option.some.injEq, Prod.mk.injEq] at h
      obtain ⟨rfl, rfl⟩ := h
      have HT := Aside0.mk htv
      have H := Aside0.mk hg
      have hxy : l1.length ≤ l0.length := Nat.le_of_lt hlt
      clear htv hg
      go_enter Try.func17, Try.ntmps17
      try dsimp only [List.append]
      go_upto_region 2 with (first
        | (go_at_call 22; ((with_reducible refine (onp_ord.gt _ _ _ _ _ _ _ hlt).mono ?_); rintro e w2 ⟨rfl, hb⟩; have n0_ := Aside0.mk (below_step HB.out hb.below); clear HB hb; have HB := n0_; clear n0_)))
      have h := H.out
      clear H
      unfold onp_Run.g at h
      rw [Option.bind_eq_some_iff] at h
      obtain ⟨⟨pp, rl, st⟩, hs, h⟩ := h
      simp only at h
      by_cases hle : (prs rl).length ≤ 1000000000
      · rw [if_pos hle, Option.bind_eq_some_iff] at h
        obtain ⟨lv, hv, h⟩ := h
        simp only [Option.some.injEq, Prod.mk.injEq] at h
        obtain ⟨rfl, rfl⟩ := h
        have HV := Aside0.mk hv
        have HBD := Aside0.mk (search_bd hxy hs)
        have HS := Aside0.mk hs
        clear hv hs
        go_wp2_with (first
          | (go_at_call 23; ((with_reducible refine (onp_search.calls k l1 l0 A1 c1 A0 c0 pp rl _ _ (Kd.C_below HR1.out HB.out) HC1.out (Kd.C_below HR0.out HB.out) HC0.out hxy hl0 HS.out).mono ?_); rintro e w3 ⟨q, rfl, hq, hb⟩; have n0_ := Aside0.mk (below_step HB.out hb); have HQ := Aside0.mk hq; clear HB hb hq; have HB := n0_; clear n0_)))
        have hlb := Aside0.mk hle
        clear hle HS
        go_loopg [13, 12] rl.length (fun kq v13 v12 w' => ∃ (qq : Option Addr) (t done : List (Int × Int × Int)), v13 = .pointer qq ∧ Aside0 (t.length = kq) ∧ Aside0 (done ++ t = rl) ∧ Aside0 (Way w' qq t) ∧ Aside0 (Below w.heap.size w w') ∧ Aside0 (Kd.R k53 53 w' w.heap.size (fun _ => True) v12 (prs done)))
        case atStart => exact ⟨q, rl, [], rfl, ⟨rfl⟩, ⟨rfl⟩, HQ, HB, ⟨Kd.R_nil _ _ _ _ _⟩⟩
        case round =>
          clear HQ HB
          obtain ⟨qq, t, done, rfl, HTK, HDT, HQ, HB, HO⟩ := hrel
          cases t with
          | nil =>
            obtain rfl := Way.nil_none HQ.out
            have HD := Aside0.mk (show prs done = prs rl by have := HDT.out; rw [List.append_nil] at this; rw [this])
            obtain ⟨A12, n12, c12, rfl⟩ : ∃ A n c, u12 = .slice A n c := by obtain ⟨A, c, e⟩ := Kd.R_slice HO.out; exact ⟨A, _, c, e⟩
            go_wp2_with (first
              | (go_at_call 25; ((with_reducible refine (api_Pair.calls k (fun _ => True) (.slice A12 n12 c12) (prs done) lv w _ HB.out HO.out (by rw [HD.out]; exact HV.out)).mono ?_); rintro e w4 ⟨rfl, ho, hb, -⟩; have n0_ := Aside0.mk hb; have n1_ := Aside0.mk (Kd.R_mono (ok' := fun _ => True) ho (fun _ _ => trivial)); clear HB HO ho hb; have HB := n0_; have HO := n1_; clear n0_ n1_; obtain rfl := (Kd.R_reads' HO.out).1))
              | (go_at_call 26; ((with_reducible refine (pairs_Turn.calls k A12 c12 lv _ _ (Kd.R_reads' HO.out).2.2 (Kd.R_reads' HO.out).2.1 HT.out).mono ?_); rintro e w5 ⟨v5, rfl, ho, hb⟩; have n0_ := Aside0.mk (below_step HB.out hb); have n1_ := Aside0.mk (Kd.R_lower ho HB.out.size); clear HB HO ho hb; have HB := n0_; have HO := n1_; clear n0_ n1_)))
            go_ret2
            exact ⟨_, rfl, HO.out, HB.out⟩
          | cons r t =>
            obtain ⟨ri, rj, rn⟩ := r
            have hbd := HBD.out (ri, rj, rn) (by rw [← HDT.out]; simp)
            simp only at hbd
            obtain ⟨b1, b2, b3, b4, b5, b6⟩ := hbd
            have hQ := HQ.out
            obtain ⟨g, q', rfl, hg, ht⟩ := hQ
            simp only at hg
            have HG := Aside0.mk hg
            have hz0 : wr.cell? ⟨g, 0, none⟩ = some (.int .i64 ri) := (blk_cell hg 0).trans rfl
            have hz1 : wr.cell? ⟨g, 1, none⟩ = some (.int .i64 rj) := (blk_cell hg 1).trans rfl
            have hz2 : wr.cell? ⟨g, 2, none⟩ = some (.int .i64 rn) := (blk_cell hg 2).trans rfl
            have HQT := Aside0.mk ht
            clear hg ht HQ
            have HTL := Aside0.mk (show prs done ++ desc ri rj rn.toNat ++ prs t = prs rl by rw [← HDT.out, prs_append]; simp [prs])
            go_wp2_with fail
            go_loopw [14, 12] (fun v u wr => ∃ (e : Int) (xs : List S53), -1 ≤ e ∧ e < rn ∧ v = .int .i64 e ∧ Aside0 (xs ++ desc ri rj (e + 1).toNat ++ prs t = prs rl) ∧ Aside0 (wr.heap[g]? = some (.cells #[.int .i64 ri, .int .i64 rj, .int .i64 rn, .pointer q'] 51 (0, 0))) ∧ Aside0 (Way wr q' t) ∧ Aside0 (Below w.heap.size w wr) ∧ Aside0 (Kd.R k53 53 wr w.heap.size (fun _ => True) u xs)) (fun v _ _ => (intOf v + 1).toNat)
            case atStart => exact ⟨rn - 1, prs done, by omega, by omega, rfl, by rw [show rn - 1 + 1 = rn by omega]; exact HTL, HG, HQT, HB, HO⟩
            case round =>
              have HDT2 := Aside0.mk (show prs (done ++ [(ri, rj, rn)]) ++ prs t = prs rl by rw [← HTL.out, prs_snoc])
              have HDT3 := Aside0.mk (show (done ++ [(ri, rj, rn)]) ++ t = rl by rw [← HDT.out]; simp)
              clear HTL HG HQT HB HO hz0 hz1 hz2 HDT
              obtain ⟨e, xs, he0, he1, rfl, HTL, HG, HQT, HB, HO⟩ := hrel
              by_cases hlt : 0 ≤ e
              · have hz0 : wr.cell? ⟨g, 0, none⟩ = some (.int .i64 ri) := (blk_cell HG.out 0).trans rfl
                have hz1 : wr.cell? ⟨g, 1, none⟩ = some (.int .i64 rj) := (blk_cell HG.out 1).trans rfl
                have HTX := Aside0.mk (show xs ++ [⟨ri + e, rj + e⟩] ++ desc ri rj e.toNat ++ prs t = prs rl by rw [← HTL.out, desc_step _ _ hlt]; simp)
                have HXL := Aside0.mk (show xs.length ≤ 1000000000 by have := hlb.out; rw [← HTL.out] at this; simp at this; omega)
                have cz1 : IntKind.i64.wrap (ri + e) = ri + e := IntWalk.i64_in _ (by omega)
                have cz2 : IntKind.i64.wrap (rj + e) = rj + e := IntWalk.i64_in _ (by omega)
                go_upto_region 10 with fail
                have n0_ := Aside0.mk (below_drew HB.out)
                have n1_ := Aside0.mk (Kd.R_drew HO.out)
                clear HB HO
                have HB := n0_
                have HO := n1_
                clear n0_ n1_
                go_region_held3 (fun w' => w'.cell? ⟨g, 0, none⟩ = some (.int .i64 ri) ∧ w'.cell? ⟨g, 1, none⟩ = some (.int .i64 rj)) (first | go_keep | exact ⟨(blk_cell HG.out 0).trans rfl, (blk_cell HG.out 1).trans rfl⟩) (first
                  | ((refine Kd.R_append_step k53 (w0 := w) (W := wr.drew) w.heap.size (by rfl) (.tmp 45) (.tmp 59) 31 53 (.agg #[.int .i64 0, .int .i64 0]) 16 rfl Try.underlying31 infoP53_ rfl (by decide) (by omega) u12 xs ⟨ri + e, rj + e⟩ [.int .i64 (ri + e), .int .i64 (rj + e)] (fun _ => True) (fun k_ => some k_ ≠ (u12 : Value).ownBlock) rfl rfl ?aP (fun _ hk => ⟨trivial, hk⟩) ?aF ?aO ?aB ?aS ?aL ?_; (case aP => exact k53_mkM _ _ _ (⟨ri + e, rj + e⟩ : S53)); (case aF => exact fun _ _ => trivial); (case aO => exact HO.out); (case aB => exact HB.out); (case aS => exact HB.out.size); (case aL => have := HXL.out; omega); intro v3 w6 ho hb hg hat; have n2_ := Aside0.mk (blk_grown (w := wr.drew) HG.out hg (fun e_ => by obtain ⟨cells, hc⟩ := Kd.R_typed HO.out _ e_.symm; exact blk_ne (w := wr.drew) HG.out hc (by decide) rfl)); have n3_ := Aside0.mk (Way.grown (Way.below (below_drew (Below.refl _ _)) HQT.out) hg (Kd.R_typed HO.out) (by decide)); have n0_ := Aside0.mk hb; have n1_ := Aside0.mk ho; clear HB HO HG HQT ho hb hg hat; have HB := n0_; have HO := n1_; have HG := n2_; have HQT := n3_; clear n0_ n1_ n2_ n3_)))
                go_wp2_with fail
                go_roundw
                case rel => exact ⟨e - 1, _, by omega, by omega, rfl, by rw [show e - 1 + 1 = e by omega]; exact HTX, HG, HQT, HB, HO⟩
                case measure => simp [intOf]; omega
              · have hge : decide (0 ≤ e) = false := decide_eq_false hlt
                have hz3 : wr.cell? ⟨g, 3, none⟩ = some (.pointer q') := (blk_cell HG.out 3).trans rfl
                have HX := Aside0.mk (show xs = prs (done ++ [(ri, rj, rn)]) by have := HTL.out; rw [show (e + 1).toNat = 0 by omega, desc, List.append_nil, ← HDT2.out] at this; exact List.append_cancel_right this)
                go_wp2_with fail
                go_roundg t.length
                case measure => have := HTK.out; simp at this; omega
                case rel => exact ⟨q', t, done ++ [(ri, rj, rn)], rfl, ⟨rfl⟩, HDT3, HQT, HB, ⟨by rw [← HX.out]; exact HO.out⟩⟩
      · rw [if_neg hle] at h
        cases h
    · rw [if_neg hlt] at h
      have H := Aside0.mk h
      have hxy : l0.length ≤ l1.length := Nat.not_lt.mp hlt
      clear h
      go_enter Try.func17, Try.ntmps17
      try dsimp only [List.append]
      go_upto_region 2 with (first
        | (go_at_call 22; ((with_reducible refine (onp_ord.le _ _ _ _ _ _ _ hlt).mono ?_); rintro e w2 ⟨rfl, hb⟩; have n0_ := Aside0.mk (below_step HB.out hb.below); clear HB hb; have HB := n0_; clear n0_)))
      have h := H.out
      clear H
      unfold onp_Run.g at h
      rw [Option.bind_eq_some_iff] at h
      obtain ⟨⟨pp, rl, st⟩, hs, h⟩ := h
      simp only at h
      by_cases hle : (prs rl).length ≤ 1000000000
      · rw [if_pos hle, Option.bind_eq_some_iff] at h
        obtain ⟨lv, hv, h⟩ := h
        simp only [Option.some.injEq, Prod.mk.injEq] at h
        obtain ⟨rfl, rfl⟩ := h
        have HV := Aside0.mk hv
        have HBD := Aside0.mk (search_bd hxy hs)
        have HS := Aside0.mk hs
        clear hv hs
        go_wp2_with (first
          | (go_at_call 23; ((with_reducible refine (onp_search.calls k l0 l1 A0 c0 A1 c1 pp rl _ _ (Kd.C_below HR0.out HB.out) HC0.out (Kd.C_below HR1.out HB.out) HC1.out hxy hl1 HS.out).mono ?_); rintro e w3 ⟨q, rfl, hq, hb⟩; have n0_ := Aside0.mk (below_step HB.out hb); have HQ := Aside0.mk hq; clear HB hb hq; have HB := n0_; clear n0_)))
        have hlb := Aside0.mk hle
        clear hle HS
        go_loopg [13, 12] rl.length (fun kq v13 v12 w' => ∃ (qq : Option Addr) (t done : List (Int × Int × Int)), v13 = .pointer qq ∧ Aside0 (t.length = kq) ∧ Aside0 (done ++ t = rl) ∧ Aside0 (Way w' qq t) ∧ Aside0 (Below w.heap.size w w') ∧ Aside0 (Kd.R k53 53 w' w.heap.size (fun _ => True) v12 (prs done)))
        case atStart => exact ⟨q, rl, [], rfl, ⟨rfl⟩, ⟨rfl⟩, HQ, HB, ⟨Kd.R_nil _ _ _ _ _⟩⟩
        case round =>
          clear HQ HB
          obtain ⟨qq, t, done, rfl, HTK, HDT, HQ, HB, HO⟩ := hrel
          cases t with
          | nil =>
            obtain rfl := Way.nil_none HQ.out
            have HD := Aside0.mk (show prs done = prs rl by have := HDT.out; rw [List.append_nil] at this; rw [this])
            obtain ⟨A12, n12, c12, rfl⟩ : ∃ A n c, u12 = .slice A n c := by obtain ⟨A, c, e⟩ := Kd.R_slice HO.out; exact ⟨A, _, c, e⟩
            go_wp2_with (first
              | (go_at_call 25; ((with_reducible refine (api_Pair.calls k (fun _ => True) (.slice A12 n12 c12) (prs done) lv w _ HB.out HO.out (by rw [HD.out]; exact HV.out)).mono ?_); rintro e w4 ⟨rfl, ho, hb, -⟩; have n0_ := Aside0.mk hb; have n1_ := Aside0.mk (Kd.R_mono (ok' := fun _ => True) ho (fun _ _ => trivial)); clear HB HO ho hb; have HB := n0_; have HO := n1_; clear n0_ n1_; obtain rfl := (Kd.R_reads' HO.out).1))
              )
            go_ret2
            exact ⟨_, rfl, HO.out, HB.out⟩
          | cons r t =>
            obtain ⟨ri, rj, rn⟩ := r
            have hbd := HBD.out (ri, rj, rn) (by rw [← HDT.out]; simp)
            simp only at hbd
            obtain ⟨b1, b2, b3, b4, b5, b6⟩ := hbd
            have hQ := HQ.out
            obtain ⟨g, q', rfl, hg, ht⟩ := hQ
            simp only at hg
            have HG := Aside0.mk hg
            have hz0 : wr.cell? ⟨g, 0, none⟩ = some (.int .i64 ri) := (blk_cell hg 0).trans rfl
            have hz1 : wr.cell? ⟨g, 1, none⟩ = some (.int .i64 rj) := (blk_cell hg 1).trans rfl
            have hz2 : wr.cell? ⟨g, 2, none⟩ = some (.int .i64 rn) := (blk_cell hg 2).trans rfl
            have HQT := Aside0.mk ht
            clear hg ht HQ
            have HTL := Aside0.mk (show prs done ++ desc ri rj rn.toNat ++ prs t = prs rl by rw [← HDT.out, prs_append]; simp [prs])
            go_wp2_with fail
            go_loopw [14, 12] (fun v u wr => ∃ (e : Int) (xs : List S53), -1 ≤ e ∧ e < rn ∧ v = .int .i64 e ∧ Aside0 (xs ++ desc ri rj (e + 1).toNat ++ prs t = prs rl) ∧ Aside0 (wr.heap[g]? = some (.cells #[.int .i64 ri, .int .i64 rj, .int .i64 rn, .pointer q'] 51 (0, 0))) ∧ Aside0 (Way wr q' t) ∧ Aside0 (Below w.heap.size w wr) ∧ Aside0 (Kd.R k53 53 wr w.heap.size (fun _ => True) u xs)) (fun v _ _ => (intOf v + 1).toNat)
            case atStart => exact ⟨rn - 1, prs done, by omega, by omega, rfl, by rw [show rn - 1 + 1 = rn by omega]; exact HTL, HG, HQT, HB, HO⟩
            case round =>
              have HDT2 := Aside0.mk (show prs (done ++ [(ri, rj, rn)]) ++ prs t = prs rl by rw [← HTL.out, prs_snoc])
              have HDT3 := Aside0.mk (show (done ++ [(ri, rj, rn)]) ++ t = rl by rw [← HDT.out]; simp)
              clear HTL HG HQT HB HO hz0 hz1 hz2 HDT
              obtain ⟨e, xs, he0, he1, rfl, HTL, HG, HQT, HB, HO⟩ := hrel
              by_cases hlt : 0 ≤ e
              · have hz0 : wr.cell? ⟨g, 0, none⟩ = some (.int .i64 ri) := (blk_cell HG.out 0).trans rfl
                have hz1 : wr.cell? ⟨g, 1, none⟩ = some (.int .i64 rj) := (blk_cell HG.out 1).trans rfl
                have HTX := Aside0.mk (show xs ++ [⟨ri + e, rj + e⟩] ++ desc ri rj e.toNat ++ prs t = prs rl by rw [← HTL.out, desc_step _ _ hlt]; simp)
                have HXL := Aside0.mk (show xs.length ≤ 1000000000 by have := hlb.out; rw [← HTL.out] at this; simp at this; omega)
                have cz1 : IntKind.i64.wrap (ri + e) = ri + e := IntWalk.i64_in _ (by omega)
                have cz2 : IntKind.i64.wrap (rj + e) = rj + e := IntWalk.i64_in _ (by omega)
                go_upto_region 10 with fail
                have n0_ := Aside0.mk (below_drew HB.out)
                have n1_ := Aside0.mk (Kd.R_drew HO.out)
                clear HB HO
                have HB := n0_
                have HO := n1_
                clear n0_ n1_
                go_region_held3 (fun w' => w'.cell? ⟨g, 0, none⟩ = some (.int .i64 ri) ∧ w'.cell? ⟨g, 1, none⟩ = some (.int .i64 rj)) (first | go_keep | exact ⟨(blk_cell HG.out 0).trans rfl, (blk_cell HG.out 1).trans rfl⟩) (first
                  | ((refine Kd.R_append_step k53 (w0 := w) (W := wr.drew) w.heap.size (by rfl) (.tmp 45) (.tmp 59) 31 53 (.agg #[.int .i64 0, .int .i64 0]) 16 rfl Try.underlying31 infoP53_ rfl (by decide) (by omega) u12 xs ⟨ri + e, rj + e⟩ [.int .i64 (ri + e), .int .i64 (rj + e)] (fun _ => True) (fun k_ => some k_ ≠ (u12 : Value).ownBlock) rfl rfl ?aP (fun _ hk => ⟨trivial, hk⟩) ?aF ?aO ?aB ?aS ?aL ?_; (case aP => exact k53_mkM _ _ _ (⟨ri + e, rj + e⟩ : S53)); (case aF => exact fun _ _ => trivial); (case aO => exact HO.out); (case aB => exact HB.out); (case aS => exact HB.out.size); (case aL => have := HXL.out; omega); intro v3 w6 ho hb hg hat; have n2_ := Aside0.mk (blk_grown (w := wr.drew) HG.out hg (fun e_ => by obtain ⟨cells, hc⟩ := Kd.R_typed HO.out _ e_.symm; exact blk_ne (w := wr.drew) HG.out hc (by decide) rfl)); have n3_ := Aside0.mk (Way.grown (Way.below (below_drew (Below.refl _ _)) HQT.out) hg (Kd.R_typed HO.out) (by decide)); have n0_ := Aside0.mk hb; have n1_ := Aside0.mk ho; clear HB HO HG HQT ho hb hg hat; have HB := n0_; have HO := n1_; have HG := n2_; have HQT := n3_; clear n0_ n1_ n2_ n3_)))
                go_wp2_with fail
                go_roundw
                case rel => exact ⟨e - 1, _, by omega, by omega, rfl, by rw [show e - 1 + 1 = e by omega]; exact HTX, HG, HQT, HB, HO⟩
                case measure => simp [intOf]; omega
              · have hge : decide (0 ≤ e) = false := decide_eq_false hlt
                have hz3 : wr.cell? ⟨g, 3, none⟩ = some (.pointer q') := (blk_cell HG.out 3).trans rfl
                have HX := Aside0.mk (show xs = prs (done ++ [(ri, rj, rn)]) by have := HTL.out; rw [show (e + 1).toNat = 0 by omega, desc, List.append_nil, ← HDT2.out] at this; exact List.append_cancel_right this)
                go_wp2_with fail
                go_roundg t.length
                case measure => have := HTK.out; simp at this; omega
                case rel => exact ⟨q', t, done ++ [(ri, rj, rn)], rfl, ⟨rfl⟩, HDT3, HQT, HB, ⟨by rw [← HX.out]; exact HO.out⟩⟩
      · rw [if_neg hle] at h
        cases h
  · rw [if_neg hl] at h
    cases h

/-! ### tattinglaw18_awake: function 11 -/
def tattinglaw18_awake.f (k : Nat)  : Option (Bool) := (onp_Dist.f k (([1, 2, 3] : List Int)) (([1, 9, 3] : List Int))).bind fun bt138 => ((onp_Run.f k (([1, 2, 3] : List Int)) (([1, 9, 3] : List Int))).bind fun bt146 => (if bt138.1 = 2 then (if bt138.2 = 4 then (if (bt146.1.length : Int) = 2 then (if bt146.2 = 4 then ((onp_Most.f k 3 3 2).bind fun t150 => (if t150 = 4 then ((onp_Far.f k ([] : List Int) ([] : List Int) 0).bind fun t151 => (some ((t151.length : Int) == 1))) else (some false))) else (some false)) else (some false)) else (some false)) else (some false)))
theorem tattinglaw18_awake.mono : ∀ k, LeO (tattinglaw18_awake.f k ) (tattinglaw18_awake.f (k + 1) ) := by
  intro  k
  unfold tattinglaw18_awake.f
  repeat' first
      | (with_reducible exact onp_Dist.mono _ _ _)
      | (with_reducible exact onp_Far.mono _ _ _ _)
      | (with_reducible exact onp_Most.mono _ _ _ _)
      | (with_reducible exact onp_Run.mono _ _ _)
      | (with_reducible exact LeO.refl _)
      | (with_reducible exact LeO.none _)
      | (with_reducible refine LeO.ite ?_ ?_)
      | (with_reducible refine LeO.bind ?_ (fun _ => ?_))
      | exact onp_Dist.mono _ _ _
      | exact onp_Far.mono _ _ _ _
      | exact onp_Most.mono _ _ _ _
      | exact onp_Run.mono _ _ _
      | exact LeO.none _
      | refine LeO.ite ?_ ?_
      | refine LeO.bind ?_ (fun _ => ?_)
set_option maxHeartbeats 8000000 in
set_option maxRecDepth 100000 in
theorem tattinglaw18_awake.calls (k : Nat)  (r : Bool) (w : World) (h : tattinglaw18_awake.f k  = some r) (hr_ : r = true) :
    Calls Try.prog 11 #[] w fun e w' => e = .returned (.bool r) ∧ Below w.heap.size w w' := by
  have HB := Aside0.mk (Below.refl w.heap.size w)
  have H : ((onp_Dist.f k (([1, 2, 3] : List Int)) (([1, 9, 3] : List Int))).bind fun bt138 => ((onp_Run.f k (([1, 2, 3] : List Int)) (([1, 9, 3] : List Int))).bind fun bt146 => (if bt138.1 = 2 then (if bt138.2 = 4 then (if (bt146.1.length : Int) = 2 then (if bt146.2 = 4 then ((onp_Most.f k 3 3 2).bind fun t150 => (if t150 = 4 then ((onp_Far.f k ([] : List Int) ([] : List Int) 0).bind fun t151 => (some ((t151.length : Int) == 1))) else (some false))) else (some false)) else (some false)) else (some false)) else (some false)))) = some r := h
  clear h
  obtain ⟨y132, hy132⟩ : ∃ y_ : List Int, y_ = (([1, 2, 3] : List Int)) := ⟨_, rfl⟩
  replace H : ((onp_Dist.f k y132 (([1, 9, 3] : List Int))).bind fun bt138 => ((onp_Run.f k (([1, 2, 3] : List Int)) (([1, 9, 3] : List Int))).bind fun bt146 => (if bt138.1 = 2 then (if bt138.2 = 4 then (if (bt146.1.length : Int) = 2 then (if bt146.2 = 4 then ((onp_Most.f k 3 3 2).bind fun t150 => (if t150 = 4 then ((onp_Far.f k ([] : List Int) ([] : List Int) 0).bind fun t151 => (some ((t151.length : Int) == 1))) else (some false))) else (some false)) else (some false)) else (some false)) else (some false)))) = some r := by first | (rw [hy132]; with_reducible exact H) | (have H2_ := (Option.bind_some _ _).symm.trans H; rw [hy132]; with_reducible exact H2_) | (have H2_ := (Option.bind_some _ _).symm.trans H; with_reducible exact H2_) | with_reducible exact H | (rw [hy132]; exact H) | exact H
  have Ny132 := Aside0.mk hy132
  clear hy132
  obtain ⟨y135, hy135⟩ : ∃ y_ : List Int, y_ = (([1, 9, 3] : List Int)) := ⟨_, rfl⟩
  replace H : ((onp_Dist.f k y132 y135).bind fun bt138 => ((onp_Run.f k (([1, 2, 3] : List Int)) (([1, 9, 3] : List Int))).bind fun bt146 => (if bt138.1 = 2 then (if bt138.2 = 4 then (if (bt146.1.length : Int) = 2 then (if bt146.2 = 4 then ((onp_Most.f k 3 3 2).bind fun t150 => (if t150 = 4 then ((onp_Far.f k ([] : List Int) ([] : List Int) 0).bind fun t151 => (some ((t151.length : Int) == 1))) else (some false))) else (some false)) else (some false)) else (some false)) else (some false)))) = some r := by first | (rw [hy135]; with_reducible exact H) | (have H2_ := (Option.bind_some _ _).symm.trans H; rw [hy135]; with_reducible exact H2_) | (have H2_ := (Option.bind_some _ _).symm.trans H; with_reducible exact H2_) | with_reducible exact H | (rw [hy135]; exact H) | exact H
  have Ny135 := Aside0.mk hy135
  clear hy135
  replace H := Option.bind_eq_some_iff.mp H
  obtain ⟨⟨t138, t139⟩, A10, H⟩ := H
  replace H : ((onp_Run.f k (([1, 2, 3] : List Int)) (([1, 9, 3] : List Int))).bind fun bt146 => (if t138 = 2 then (if t139 = 4 then (if (bt146.1.length : Int) = 2 then (if bt146.2 = 4 then ((onp_Most.f k 3 3 2).bind fun t150 => (if t150 = 4 then ((onp_Far.f k ([] : List Int) ([] : List Int) 0).bind fun t151 => (some ((t151.length : Int) == 1))) else (some false))) else (some false)) else (some false)) else (some false)) else (some false))) = some r := H
  have A1 := Aside0.mk A10
  clear A10
  obtain ⟨y140, hy140⟩ : ∃ y_ : List Int, y_ = (([1, 2, 3] : List Int)) := ⟨_, rfl⟩
  replace H : ((onp_Run.f k y140 (([1, 9, 3] : List Int))).bind fun bt146 => (if t138 = 2 then (if t139 = 4 then (if (bt146.1.length : Int) = 2 then (if bt146.2 = 4 then ((onp_Most.f k 3 3 2).bind fun t150 => (if t150 = 4 then ((onp_Far.f k ([] : List Int) ([] : List Int) 0).bind fun t151 => (some ((t151.length : Int) == 1))) else (some false))) else (some false)) else (some false)) else (some false)) else (some false))) = some r := by first | (rw [hy140]; with_reducible exact H) | (have H2_ := (Option.bind_some _ _).symm.trans H; rw [hy140]; with_reducible exact H2_) | (have H2_ := (Option.bind_some _ _).symm.trans H; with_reducible exact H2_) | with_reducible exact H | (rw [hy140]; exact H) | exact H
  have Ny140 := Aside0.mk hy140
  clear hy140
  obtain ⟨y143, hy143⟩ : ∃ y_ : List Int, y_ = (([1, 9, 3] : List Int)) := ⟨_, rfl⟩
  replace H : ((onp_Run.f k y140 y143).bind fun bt146 => (if t138 = 2 then (if t139 = 4 then (if (bt146.1.length : Int) = 2 then (if bt146.2 = 4 then ((onp_Most.f k 3 3 2).bind fun t150 => (if t150 = 4 then ((onp_Far.f k ([] : List Int) ([] : List Int) 0).bind fun t151 => (some ((t151.length : Int) == 1))) else (some false))) else (some false)) else (some false)) else (some false)) else (some false))) = some r := by first | (rw [hy143]; with_reducible exact H) | (have H2_ := (Option.bind_some _ _).symm.trans H; rw [hy143]; with_reducible exact H2_) | (have H2_ := (Option.bind_some _ _).symm.trans H; with_reducible exact H2_) | with_reducible exact H | (rw [hy143]; exact H) | exact H
  have Ny143 := Aside0.mk hy143
  clear hy143
  replace H := Option.bind_eq_some_iff.mp H
  obtain ⟨⟨t146, t147⟩, A20, H⟩ := H
  replace H : (if t138 = 2 then (if t139 = 4 then (if (t146.length : Int) = 2 then (if t147 = 4 then ((onp_Most.f k 3 3 2).bind fun t150 => (if t150 = 4 then ((onp_Far.f k ([] : List Int) ([] : List Int) 0).bind fun t151 => (some ((t151.length : Int) == 1))) else (some false))) else (some false)) else (some false)) else (some false)) else (some false)) = some r := H
  have A2 := Aside0.mk A20
  clear A20
  by_cases c3 : t138 = 2
  · rw [if_pos c3] at H
    have c3b0 : (t138 == 2) = true := beq_iff_eq.mpr c3
    have c3b1 : (t138 != 2) = false := bne_eq_false_iff_eq.mpr c3
    clear c3
    by_cases c4 : t139 = 4
    · rw [if_pos c4] at H
      have c4b0 : (t139 == 4) = true := beq_iff_eq.mpr c4
      have c4b1 : (t139 != 4) = false := bne_eq_false_iff_eq.mpr c4
      clear c4
      by_cases c5 : (t146.length : Int) = 2
      · rw [if_pos c5] at H
        have c5b0 : ((t146.length : Int) == 2) = true := beq_iff_eq.mpr c5
        have c5b1 : ((t146.length : Int) != 2) = false := bne_eq_false_iff_eq.mpr c5
        clear c5
        by_cases c6 : t147 = 4
        · rw [if_pos c6] at H
          have c6b0 : (t147 == 4) = true := beq_iff_eq.mpr c6
          have c6b1 : (t147 != 4) = false := bne_eq_false_iff_eq.mpr c6
          clear c6
          replace H := Option.bind_eq_some_iff.mp H
          obtain ⟨t150, A70, H⟩ := H
          replace H : (if t150 = 4 then ((onp_Far.f k ([] : List Int) ([] : List Int) 0).bind fun t151 => (some ((t151.length : Int) == 1))) else (some false)) = some r := H
          have A7 := Aside0.mk A70
          clear A70
          by_cases c8 : t150 = 4
          · rw [if_pos c8] at H
            have c8b0 : (t150 == 4) = true := beq_iff_eq.mpr c8
            have c8b1 : (t150 != 4) = false := bne_eq_false_iff_eq.mpr c8
            clear c8
            replace H := Option.bind_eq_some_iff.mp H
            obtain ⟨t151, A90, H⟩ := H
            replace H : (some ((t151.length : Int) == 1)) = some r := H
            have A9 := Aside0.mk A90
            clear A90
            obtain rfl := Option.some.inj H
            go_enter Try.func11, Try.ntmps11
            go_wp2_with (first | ((with_reducible refine gate_dst (N := 6) rfl ?_); (try (refine gate_guard (by rfl) ?_; dsimp only)); refine Kd.R_lit (Kd.int .i64) _ 3 ?hg (N := 6) ?hd (xs := ([1, 2, 3] : List Int)) (inner := [.int .i64 1, .int .i64 2, .int .i64 3]) (ok := fun _ => True) (okp := fun _ => True) ?hr ?hp (fun _ hk => hk) trivial (Below.refl _ _) (Nat.le_refl _) (by simp) ?_; (case hd => rfl); (case hg => rfl); (case hr => first | (go_simp; done) | (go_simp; rfl)); (case hp => exact (Reps.one (show Kd.M (Kd.int .i64) _ _ _ 1 [.int .i64 1] from rfl) (Reps.one (show Kd.M (Kd.int .i64) _ _ _ 2 [.int .i64 2] from rfl) (Reps.one (show Kd.M (Kd.int .i64) _ _ _ 3 [.int .i64 3] from rfl) (Reps.none _ _))))); intro v133 w10 ho11 hb hg_ hnew_; (try clear hg_); (try clear hnew_); (first | rw [← Ny132.out] at ho11 | (simp only [Int.reduceToNat] at ho11; rw [← Ny132.out] at ho11)); have n0_ := Aside0.mk (Kd.R_lower ho11 (below_size (by repeat (first | (with_reducible first | exact HB.out | apply below_alloc | apply pw_below_drewN | apply below_drew1) | exact HB.out)))); have n1_ := Aside0.mk (below_step (by repeat (first | (with_reducible first | exact HB.out | apply below_alloc | apply pw_below_drewN | apply below_drew1) | exact HB.out)) hb); clear HB; have HO134 := n0_; have HB := n1_; clear n0_ n1_; (try clear hb); (try clear ho11)) | ((with_reducible refine gate_dst (N := 7) rfl ?_); (try (refine gate_guard (by rfl) ?_; dsimp only)); refine Kd.R_lit (Kd.int .i64) _ 3 ?hg (N := 7) ?hd (xs := ([1, 9, 3] : List Int)) (inner := [.int .i64 1, .int .i64 9, .int .i64 3]) (ok := fun _ => True) (okp := fun _ => True) ?hr ?hp (fun _ hk => hk) trivial (Below.refl _ _) (Nat.le_refl _) (by simp) ?_; (case hd => rfl); (case hg => rfl); (case hr => first | (go_simp; done) | (go_simp; rfl)); (case hp => exact (Reps.one (show Kd.M (Kd.int .i64) _ _ _ 1 [.int .i64 1] from rfl) (Reps.one (show Kd.M (Kd.int .i64) _ _ _ 9 [.int .i64 9] from rfl) (Reps.one (show Kd.M (Kd.int .i64) _ _ _ 3 [.int .i64 3] from rfl) (Reps.none _ _))))); intro v136 w12 ho13 hb hg_ hnew_; (try clear hg_); (try clear hnew_); (first | rw [← Ny135.out] at ho13 | (simp only [Int.reduceToNat] at ho13; rw [← Ny135.out] at ho13)); have n0_ := Aside0.mk (Kd.R_elder' (by (with_reducible repeat (first | apply Kd.R_alloc | apply Kd.R_drewN | apply Kd.R_drew)); exact HO134.out) (Kd.R_base ho13) hb); have n1_ := Aside0.mk (Kd.R_lower (Kd.R_new' ho13 (Kd.R_lt (by (with_reducible repeat (first | apply Kd.R_alloc | apply Kd.R_drewN | apply Kd.R_drew)); exact HO134.out))) (below_size (by repeat (first | (with_reducible first | exact HB.out | apply below_alloc | apply pw_below_drewN | apply below_drew1) | exact HB.out)))); have n2_ := Aside0.mk (below_step (by repeat (first | (with_reducible first | exact HB.out | apply below_alloc | apply pw_below_drewN | apply below_drew1) | exact HB.out)) hb); clear HO134; clear HB; have HO134 := n0_; have HO137 := n1_; have HB := n2_; clear n0_ n1_ n2_; (try clear hb); (try clear ho13); obtain ⟨Ao14, co14, eo14⟩ := Kd.R_slice HO134.out; subst eo14; obtain ⟨Ao15, co15, eo15⟩ := Kd.R_slice HO137.out; subst eo15) | ((first | (with_reducible refine gate_callee (f := 9) rfl ?_); refine goesL_ (some 8) rfl rfl Try.func9 (by kernel_rfl) rfl #[.slice Ao14 y132.length co14, .slice Ao15 y135.length co15] rfl (by (try simp only [List.map_toArray, List.map_cons, List.map_nil]); first | done | rfl | (simp only [List.length_drop, List.length_take]; rfl)) ?_ | go_at_call 9); (with_reducible refine (onp_Dist.calls k _ _ y132 _ _ y135 t138 t139 _ ?side1 ?side2 ?side3 ?side4 A1.out).mono ?_); (case side1 => repeat (first | exact (Kd.R_reads' HO134.out).2.2 | (with_reducible refine Kd.C_alloc ?_ _) | (with_reducible refine Kd.C_drewN ?_ _) | (with_reducible refine Kd.C_drew ?_))); (case side2 => exact (Kd.R_reads' HO134.out).2.1); (case side3 => repeat (first | exact (Kd.R_reads' HO137.out).2.2 | (with_reducible refine Kd.C_alloc ?_ _) | (with_reducible refine Kd.C_drewN ?_ _) | (with_reducible refine Kd.C_drew ?_))); (case side4 => exact (Kd.R_reads' HO137.out).2.1); rintro e w16 ⟨rfl, hb⟩; (try refine ⟨_, rfl, ?_⟩); have n0_ := Aside0.mk (Kd.R_below (by (with_reducible repeat (first | apply Kd.R_alloc | apply Kd.R_drewN | apply Kd.R_drew)); exact HO134.out) hb); have n1_ := Aside0.mk (Kd.R_below (by (with_reducible repeat (first | apply Kd.R_alloc | apply Kd.R_drewN | apply Kd.R_drew)); exact HO137.out) hb); have n2_ := Aside0.mk (below_step (by repeat (first | (with_reducible first | exact HB.out | apply below_alloc | apply pw_below_drewN | apply below_drew1) | exact HB.out)) hb); clear HO134; clear HO137; clear HB; have HO134 := n0_; have HO137 := n1_; have HB := n2_; clear n0_ n1_ n2_; (try clear hb); (try clear hb2); (try clear hk); (try clear hi)) | ((with_reducible refine gate_dst (N := 12) rfl ?_); (try (refine gate_guard (by rfl) ?_; dsimp only)); refine Kd.R_lit (Kd.int .i64) _ 3 ?hg (N := 12) ?hd (xs := ([1, 2, 3] : List Int)) (inner := [.int .i64 1, .int .i64 2, .int .i64 3]) (ok := fun _ => True) (okp := fun _ => True) ?hr ?hp (fun _ hk => hk) trivial (Below.refl _ _) (Nat.le_refl _) (by simp) ?_; (case hd => rfl); (case hg => rfl); (case hr => first | (go_simp; done) | (go_simp; rfl)); (case hp => exact (Reps.one (show Kd.M (Kd.int .i64) _ _ _ 1 [.int .i64 1] from rfl) (Reps.one (show Kd.M (Kd.int .i64) _ _ _ 2 [.int .i64 2] from rfl) (Reps.one (show Kd.M (Kd.int .i64) _ _ _ 3 [.int .i64 3] from rfl) (Reps.none _ _))))); intro v141 w17 ho18 hb hg_ hnew_; (try clear hg_); (try clear hnew_); (first | rw [← Ny140.out] at ho18 | (simp only [Int.reduceToNat] at ho18; rw [← Ny140.out] at ho18)); have n0_ := Aside0.mk (Kd.R_elder' (by (with_reducible repeat (first | apply Kd.R_alloc | apply Kd.R_drewN | apply Kd.R_drew)); exact HO134.out) (Kd.R_base ho18) hb); have n1_ := Aside0.mk (Kd.R_elder' (by (with_reducible repeat (first | apply Kd.R_alloc | apply Kd.R_drewN | apply Kd.R_drew)); exact HO137.out) (Kd.R_base ho18) hb); have n2_ := Aside0.mk (Kd.R_lower (Kd.R_new' (Kd.R_new' ho18 (Kd.R_lt (by (with_reducible repeat (first | apply Kd.R_alloc | apply Kd.R_drewN | apply Kd.R_drew)); exact HO134.out))) (Kd.R_lt (by (with_reducible repeat (first | apply Kd.R_alloc | apply Kd.R_drewN | apply Kd.R_drew)); exact HO137.out))) (below_size (by repeat (first | (with_reducible first | exact HB.out | apply below_alloc | apply pw_below_drewN | apply below_drew1) | exact HB.out)))); have n3_ := Aside0.mk (below_step (by repeat (first | (with_reducible first | exact HB.out | apply below_alloc | apply pw_below_drewN | apply below_drew1) | exact HB.out)) hb); clear HO134; clear HO137; clear HB; have HO134 := n0_; have HO137 := n1_; have HO142 := n2_; have HB := n3_; clear n0_ n1_ n2_ n3_; (try clear hb); (try clear ho18)) | ((with_reducible refine gate_dst (N := 13) rfl ?_); (try (refine gate_guard (by rfl) ?_; dsimp only)); refine Kd.R_lit (Kd.int .i64) _ 3 ?hg (N := 13) ?hd (xs := ([1, 9, 3] : List Int)) (inner := [.int .i64 1, .int .i64 9, .int .i64 3]) (ok := fun _ => True) (okp := fun _ => True) ?hr ?hp (fun _ hk => hk) trivial (Below.refl _ _) (Nat.le_refl _) (by simp) ?_; (case hd => rfl); (case hg => rfl); (case hr => first | (go_simp; done) | (go_simp; rfl)); (case hp => exact (Reps.one (show Kd.M (Kd.int .i64) _ _ _ 1 [.int .i64 1] from rfl) (Reps.one (show Kd.M (Kd.int .i64) _ _ _ 9 [.int .i64 9] from rfl) (Reps.one (show Kd.M (Kd.int .i64) _ _ _ 3 [.int .i64 3] from rfl) (Reps.none _ _))))); intro v144 w19 ho20 hb hg_ hnew_; (try clear hg_); (try clear hnew_); (first | rw [← Ny143.out] at ho20 | (simp only [Int.reduceToNat] at ho20; rw [← Ny143.out] at ho20)); have n0_ := Aside0.mk (Kd.R_elder' (by (with_reducible repeat (first | apply Kd.R_alloc | apply Kd.R_drewN | apply Kd.R_drew)); exact HO134.out) (Kd.R_base ho20) hb); have n1_ := Aside0.mk (Kd.R_elder' (by (with_reducible repeat (first | apply Kd.R_alloc | apply Kd.R_drewN | apply Kd.R_drew)); exact HO137.out) (Kd.R_base ho20) hb); have n2_ := Aside0.mk (Kd.R_elder' (by (with_reducible repeat (first | apply Kd.R_alloc | apply Kd.R_drewN | apply Kd.R_drew)); exact HO142.out) (Kd.R_base ho20) hb); have n3_ := Aside0.mk (Kd.R_lower (Kd.R_new' (Kd.R_new' (Kd.R_new' ho20 (Kd.R_lt (by (with_reducible repeat (first | apply Kd.R_alloc | apply Kd.R_drewN | apply Kd.R_drew)); exact HO134.out))) (Kd.R_lt (by (with_reducible repeat (first | apply Kd.R_alloc | apply Kd.R_drewN | apply Kd.R_drew)); exact HO137.out))) (Kd.R_lt (by (with_reducible repeat (first | apply Kd.R_alloc | apply Kd.R_drewN | apply Kd.R_drew)); exact HO142.out))) (below_size (by repeat (first | (with_reducible first | exact HB.out | apply below_alloc | apply pw_below_drewN | apply below_drew1) | exact HB.out)))); have n4_ := Aside0.mk (below_step (by repeat (first | (with_reducible first | exact HB.out | apply below_alloc | apply pw_below_drewN | apply below_drew1) | exact HB.out)) hb); clear HO134; clear HO137; clear HO142; clear HB; have HO134 := n0_; have HO137 := n1_; have HO142 := n2_; have HO145 := n3_; have HB := n4_; clear n0_ n1_ n2_ n3_ n4_; (try clear hb); (try clear ho20); obtain ⟨Ao21, co21, eo21⟩ := Kd.R_slice HO142.out; subst eo21; obtain ⟨Ao22, co22, eo22⟩ := Kd.R_slice HO145.out; subst eo22) | ((first | (with_reducible refine gate_callee (f := 17) rfl ?_); refine goesL_ (some 14) rfl rfl Try.func17 (by kernel_rfl) rfl #[.slice Ao21 y140.length co21, .slice Ao22 y143.length co22] rfl (by (try simp only [List.map_toArray, List.map_cons, List.map_nil]); first | done | rfl | (simp only [List.length_drop, List.length_take]; rfl)) ?_ | go_at_call 17); (with_reducible refine (onp_Run.calls k _ _ y140 _ _ y143 t146 t147 _ ?side1 ?side2 ?side3 ?side4 A2.out).mono ?_); (case side1 => repeat (first | exact (Kd.R_reads' HO142.out).2.2 | (with_reducible refine Kd.C_alloc ?_ _) | (with_reducible refine Kd.C_drewN ?_ _) | (with_reducible refine Kd.C_drew ?_))); (case side2 => exact (Kd.R_reads' HO142.out).2.1); (case side3 => repeat (first | exact (Kd.R_reads' HO145.out).2.2 | (with_reducible refine Kd.C_alloc ?_ _) | (with_reducible refine Kd.C_drewN ?_ _) | (with_reducible refine Kd.C_drew ?_))); (case side4 => exact (Kd.R_reads' HO145.out).2.1); rintro e w23 ⟨v148, rfl, ho0, hb⟩; (try refine ⟨_, rfl, ?_⟩); have n0_ := Aside0.mk (Kd.R_below (by (with_reducible repeat (first | apply Kd.R_alloc | apply Kd.R_drewN | apply Kd.R_drew)); exact HO134.out) hb); have n1_ := Aside0.mk (Kd.R_below (by (with_reducible repeat (first | apply Kd.R_alloc | apply Kd.R_drewN | apply Kd.R_drew)); exact HO137.out) hb); have n2_ := Aside0.mk (Kd.R_below (by (with_reducible repeat (first | apply Kd.R_alloc | apply Kd.R_drewN | apply Kd.R_drew)); exact HO142.out) hb); have n3_ := Aside0.mk (Kd.R_below (by (with_reducible repeat (first | apply Kd.R_alloc | apply Kd.R_drewN | apply Kd.R_drew)); exact HO145.out) hb); have n4_ := Aside0.mk (Kd.R_lower ho0 (below_size (by repeat (first | (with_reducible first | exact HB.out | apply below_alloc | apply pw_below_drewN | apply below_drew1) | exact HB.out)))); have n5_ := Aside0.mk (below_step (by repeat (first | (with_reducible first | exact HB.out | apply below_alloc | apply pw_below_drewN | apply below_drew1) | exact HB.out)) hb); clear HO134; clear HO137; clear HO142; clear HO145; clear HB; have HO134 := n0_; have HO137 := n1_; have HO142 := n2_; have HO145 := n3_; have HO149 := n4_; have HB := n5_; clear n0_ n1_ n2_ n3_ n4_ n5_; (try clear hb); (try clear hb2); (try clear hk); (try clear hi); (try clear ho0); obtain ⟨Ao24, co24, eo24⟩ := Kd.R_slice HO149.out; subst eo24) | (go_at_call 13; (with_reducible refine (onp_Most.calls k 3 3 2 t150 _ A7.out).mono ?_); rintro e w25 ⟨rfl, hb⟩; have n0_ := Aside0.mk (Kd.R_below (by (with_reducible repeat (first | apply Kd.R_alloc | apply Kd.R_drewN | apply Kd.R_drew)); exact HO134.out) hb); have n1_ := Aside0.mk (Kd.R_below (by (with_reducible repeat (first | apply Kd.R_alloc | apply Kd.R_drewN | apply Kd.R_drew)); exact HO137.out) hb); have n2_ := Aside0.mk (Kd.R_below (by (with_reducible repeat (first | apply Kd.R_alloc | apply Kd.R_drewN | apply Kd.R_drew)); exact HO142.out) hb); have n3_ := Aside0.mk (Kd.R_below (by (with_reducible repeat (first | apply Kd.R_alloc | apply Kd.R_drewN | apply Kd.R_drew)); exact HO145.out) hb); have n4_ := Aside0.mk (Kd.R_below (by (with_reducible repeat (first | apply Kd.R_alloc | apply Kd.R_drewN | apply Kd.R_drew)); exact HO149.out) hb); have n5_ := Aside0.mk (below_step (by repeat (first | (with_reducible first | exact HB.out | apply below_alloc | apply pw_below_drewN | apply below_drew1) | exact HB.out)) hb); clear HO134; clear HO137; clear HO142; clear HO145; clear HO149; clear HB; have HO134 := n0_; have HO137 := n1_; have HO142 := n2_; have HO145 := n3_; have HO149 := n4_; have HB := n5_; clear n0_ n1_ n2_ n3_ n4_ n5_; (try clear hb); (try clear hb2); (try clear hk); (try clear hi)) | (go_at_call 10; refine calls_of_args (args' := #[.slice none (([] : List Int)).length 0, .slice none (([] : List Int)).length 0, .int .i64 0]) (by rfl) ?_; (with_reducible refine (onp_Far.calls k none 0 ([] : List Int) none 0 ([] : List Int) 0 t151 _ ?side1 ?side2 ?side3 ?side4 A9.out).mono ?_); (case side1 => exact Kd.C_nil _ _); (case side2 => exact Nat.le_refl _); (case side3 => exact Kd.C_nil _ _); (case side4 => exact Nat.le_refl _); rintro e w26 ⟨v152, rfl, ho0, hb⟩; have n0_ := Aside0.mk (Kd.R_elder' (by (with_reducible repeat (first | apply Kd.R_alloc | apply Kd.R_drewN | apply Kd.R_drew)); exact HO134.out) (Kd.R_base ho0) hb); have n1_ := Aside0.mk (Kd.R_elder' (by (with_reducible repeat (first | apply Kd.R_alloc | apply Kd.R_drewN | apply Kd.R_drew)); exact HO137.out) (Kd.R_base ho0) hb); have n2_ := Aside0.mk (Kd.R_elder' (by (with_reducible repeat (first | apply Kd.R_alloc | apply Kd.R_drewN | apply Kd.R_drew)); exact HO142.out) (Kd.R_base ho0) hb); have n3_ := Aside0.mk (Kd.R_elder' (by (with_reducible repeat (first | apply Kd.R_alloc | apply Kd.R_drewN | apply Kd.R_drew)); exact HO145.out) (Kd.R_base ho0) hb); have n4_ := Aside0.mk (Kd.R_below (by (with_reducible repeat (first | apply Kd.R_alloc | apply Kd.R_drewN | apply Kd.R_drew)); exact HO149.out) hb); have n5_ := Aside0.mk (Kd.R_lower (Kd.R_new' (Kd.R_new' (Kd.R_new' (Kd.R_new' ho0 (Kd.R_lt (by (with_reducible repeat (first | apply Kd.R_alloc | apply Kd.R_drewN | apply Kd.R_drew)); exact HO134.out))) (Kd.R_lt (by (with_reducible repeat (first | apply Kd.R_alloc | apply Kd.R_drewN | apply Kd.R_drew)); exact HO137.out))) (Kd.R_lt (by (with_reducible repeat (first | apply Kd.R_alloc | apply Kd.R_drewN | apply Kd.R_drew)); exact HO142.out))) (Kd.R_lt (by (with_reducible repeat (first | apply Kd.R_alloc | apply Kd.R_drewN | apply Kd.R_drew)); exact HO145.out))) (below_size (by repeat (first | (with_reducible first | exact HB.out | apply below_alloc | apply pw_below_drewN | apply below_drew1) | exact HB.out)))); have n6_ := Aside0.mk (below_step (by repeat (first | (with_reducible first | exact HB.out | apply below_alloc | apply pw_below_drewN | apply below_drew1) | exact HB.out)) hb); clear HO134; clear HO137; clear HO142; clear HO145; clear HO149; clear HB; have HO134 := n0_; have HO137 := n1_; have HO142 := n2_; have HO145 := n3_; have HO149 := n4_; have HO153 := n5_; have HB := n6_; clear n0_ n1_ n2_ n3_ n4_ n5_ n6_; (try clear hb); (try clear hb2); (try clear hk); (try clear hi); (try clear ho0); obtain ⟨Ao27, co27, eo27⟩ := Kd.R_slice HO153.out; subst eo27))
            go_ret
            exact ⟨by first | rfl | (simp [errW_none, errW_some] <;> rfl) | (simp [*, errW_none, errW_some] <;> rfl), by repeat (first | (with_reducible first | exact HB.out | apply below_alloc | apply pw_below_drewN | apply below_drew1) | exact HB.out)⟩
          · rw [if_neg c8] at H
            have c8b0 : (t150 == 4) = false := beq_eq_false_iff_ne.mpr c8
            have c8b1 : (t150 != 4) = true := bne_iff_ne.mpr c8
            exact absurd (Option.some.inj H) (by rw [hr_]; decide)
        · rw [if_neg c6] at H
          have c6b0 : (t147 == 4) = false := beq_eq_false_iff_ne.mpr c6
          have c6b1 : (t147 != 4) = true := bne_iff_ne.mpr c6
          exact absurd (Option.some.inj H) (by rw [hr_]; decide)
      · rw [if_neg c5] at H
        have c5b0 : ((t146.length : Int) == 2) = false := beq_eq_false_iff_ne.mpr c5
        have c5b1 : ((t146.length : Int) != 2) = true := bne_iff_ne.mpr c5
        exact absurd (Option.some.inj H) (by rw [hr_]; decide)
    · rw [if_neg c4] at H
      have c4b0 : (t139 == 4) = false := beq_eq_false_iff_ne.mpr c4
      have c4b1 : (t139 != 4) = true := bne_iff_ne.mpr c4
      exact absurd (Option.some.inj H) (by rw [hr_]; decide)
  · rw [if_neg c3] at H
    have c3b0 : (t138 == 2) = false := beq_eq_false_iff_ne.mpr c3
    have c3b1 : (t138 != 2) = true := bne_iff_ne.mpr c3
    exact absurd (Option.some.inj H) (by rw [hr_]; decide)

/-! ### tattingref1_SameInts: function 12 -/
def tattingref1_SameInts.l0 : Nat → List Int → List Int → Int → Option (Bool)
  | 0, _, _, _ => none
  | k + 1, x0, x1, x5 => if x5 < (x0.length : Int) then (if 0 ≤ x5 then (if x5 < (x1.length : Int) then (if (rd x0 x5) = (rd x1 x5) then (tattingref1_SameInts.l0 k x0 x1 (wrap64 (x5 + 1))) else (some false)) else (none)) else (none)) else (some true)
def tattingref1_SameInts.f (k : Nat) (l0 : List Int) (l1 : List Int) : Option (Bool) := if (l0.length : Int) = (l1.length : Int) then (tattingref1_SameInts.l0 k l0 l1 0) else (some false)
theorem tattingref1_SameInts.mono_l : ∀ k, (∀ y0 y1 y2, LeO (tattingref1_SameInts.l0 k y0 y1 y2) (tattingref1_SameInts.l0 (k + 1) y0 y1 y2))
  | 0 => fun _ _ _ r h => by simp [tattingref1_SameInts.l0] at h
  | k + 1 => by
    have ih0 := tattingref1_SameInts.mono_l k
    · intro y0 y1 y2
      unfold tattingref1_SameInts.l0
      repeat' first
      | (with_reducible exact ih0 _ _ _)
      | (with_reducible exact LeO.refl _)
      | (with_reducible exact LeO.none _)
      | (with_reducible refine LeO.ite ?_ ?_)
      | (with_reducible refine LeO.bind ?_ (fun _ => ?_))
      | exact ih0 _ _ _
      | exact LeO.none _
      | refine LeO.ite ?_ ?_
      | refine LeO.bind ?_ (fun _ => ?_)
theorem tattingref1_SameInts.mono : ∀ a0 a1 k, LeO (tattingref1_SameInts.f k a0 a1) (tattingref1_SameInts.f (k + 1) a0 a1) := by
  intro a0 a1 k
  have ih0 := tattingref1_SameInts.mono_l k
  unfold tattingref1_SameInts.f
  repeat' first
      | (with_reducible exact ih0 _ _ _)
      | (with_reducible exact LeO.refl _)
      | (with_reducible exact LeO.none _)
      | (with_reducible refine LeO.ite ?_ ?_)
      | (with_reducible refine LeO.bind ?_ (fun _ => ?_))
      | exact ih0 _ _ _
      | exact LeO.none _
      | refine LeO.ite ?_ ?_
      | refine LeO.bind ?_ (fun _ => ?_)
set_option maxHeartbeats 8000000 in
set_option maxRecDepth 100000 in
theorem tattingref1_SameInts.calls (k : Nat) (A0 : Option Addr) (c0 : Nat) (l0 : List Int) (A1 : Option Addr) (c1 : Nat) (l1 : List Int) (r : Bool) (w : World) (hr0 : Kd.C (Kd.int .i64) w A0 l0.length l0) (hc0 : l0.length ≤ c0) (hr1 : Kd.C (Kd.int .i64) w A1 l1.length l1) (hc1 : l1.length ≤ c1) (h : tattingref1_SameInts.f k l0 l1 = some r) :
    Calls Try.prog 12 #[.slice A0 l0.length c0, .slice A1 l1.length c1] w fun e w' => e = .returned (.bool r) ∧ Drawn0 w w' := by
  have HR0 := Aside0.mk hr0
  have HC0 := Aside0.mk hc0
  clear hr0 hc0
  have HR1 := Aside0.mk hr1
  have HC1 := Aside0.mk hc1
  clear hr1 hc1
  have H : (if (l0.length : Int) = (l1.length : Int) then (tattingref1_SameInts.l0 k l0 l1 0) else (some false)) = some r := h
  clear h
  by_cases c3 : (l0.length : Int) = (l1.length : Int)
  · rw [if_pos c3] at H
    have c3b0 : ((l0.length : Int) == (l1.length : Int)) = true := beq_iff_eq.mpr c3
    have c3b1 : ((l0.length : Int) != (l1.length : Int)) = false := bne_eq_false_iff_eq.mpr c3
    have c3b2 : (l0.length == l1.length) = true := by first | simpa using c3 | (simp at c3 ⊢; omega)
    clear c3
    have H' := Aside0.mk H
    clear H
    go_enter Try.func12, Try.ntmps12
    go_wp2
    repeat (go_quiet (fail); try go_wp2)
    go_loopg [5] k (fun kq v5 w' => ∃ (x5_1 : Int), v5 = .int .i64 x5_1 ∧ Aside0 (tattingref1_SameInts.l0 kq l0 l1 x5_1 = some r) ∧ Aside0 (kq ≤ k) ∧ Drawn0 w w')
    case atStart => exact ⟨(0), (by first | rfl | (simp; done) | (simp [*]; done)), H', ⟨Nat.le_refl _⟩, by repeat (first | exact Drawn0.refl _ | apply Drawn0.step)⟩
    case round =>
      clear H'
      try clear c1
      try clear p2
      try clear c3
      try clear c3b0
      try clear c3b1
      try clear c3b2
      obtain ⟨x5_1, rfl, HA, HK1, ⟨m1, rfl⟩⟩ := hrel
      cases gk with
      | zero => exact absurd HA.out (by simp [tattingref1_SameInts.l0])
      | succ k1 =>
        have H := HA.out
        clear HA
        simp only [tattingref1_SameInts.l0] at H
        by_cases c4 : x5_1 < (l0.length : Int)
        · rw [if_pos c4] at H
          have c4b0 : decide (x5_1 < (l0.length : Int)) = true := decide_eq_true c4
          clear c4
          by_cases c5 : 0 ≤ x5_1
          · rw [if_pos c5] at H
            have c5b0 : decide (0 ≤ x5_1) = true := decide_eq_true c5
            clear c5
            by_cases c6 : x5_1 < (l1.length : Int)
            · rw [if_pos c6] at H
              have c6b0 : decide (x5_1 < (l1.length : Int)) = true := decide_eq_true c6
              clear c6
              by_cases c7 : (rd l0 x5_1) = (rd l1 x5_1)
              · rw [if_pos c7] at H
                have c7b0 : ((rd l0 x5_1) == (rd l1 x5_1)) = true := beq_iff_eq.mpr c7
                have c7b1 : ((rd l0 x5_1) != (rd l1 x5_1)) = false := bne_eq_false_iff_eq.mpr c7
                clear c7
                have H' := Aside0.mk H
                clear H
                have p154 : 0 ≤ (x5_1 : Int) := of_decide_eq_true (by first | (with_reducible assumption) | assumption)
                have q154 : x5_1 < (l0.length : Int) := of_decide_eq_true (by first | (with_reducible assumption) | assumption)
                obtain ⟨ad154, e154, hx154_0⟩ := Kd.at_int HR0.out x5_1 p154 q154
                cases e154
                replace p154 := eq_true p154
                replace q154 := eq_true q154
                have p155 : 0 ≤ (x5_1 : Int) := of_decide_eq_true (by first | (with_reducible assumption) | assumption)
                have q155 : x5_1 < (l1.length : Int) := of_decide_eq_true (by first | (with_reducible assumption) | assumption)
                obtain ⟨ad155, e155, hx155_0⟩ := Kd.at_int HR1.out x5_1 p155 q155
                cases e155
                replace p155 := eq_true p155
                replace q155 := eq_true q155
                go_wp2
                repeat (go_quiet (fail); try go_wp2)
                go_roundg k1
                case measure => have := HK1.out; omega
                case rel => exact ⟨(wrap64 (x5_1 + 1)), (by first | rfl | (simp; done) | (simp [*]; done)), H', ⟨by have := HK1.out; omega⟩, by repeat (first | exact Drawn0.refl _ | apply Drawn0.step)⟩
              · rw [if_neg c7] at H
                have c7b0 : ((rd l0 x5_1) == (rd l1 x5_1)) = false := beq_eq_false_iff_ne.mpr c7
                have c7b1 : ((rd l0 x5_1) != (rd l1 x5_1)) = true := bne_iff_ne.mpr c7
                obtain rfl := Option.some.inj H
                have p154 : 0 ≤ (x5_1 : Int) := of_decide_eq_true (by first | (with_reducible assumption) | assumption)
                have q154 : x5_1 < (l0.length : Int) := of_decide_eq_true (by first | (with_reducible assumption) | assumption)
                obtain ⟨ad154, e154, hx154_0⟩ := Kd.at_int HR0.out x5_1 p154 q154
                cases e154
                replace p154 := eq_true p154
                replace q154 := eq_true q154
                have p155 : 0 ≤ (x5_1 : Int) := of_decide_eq_true (by first | (with_reducible assumption) | assumption)
                have q155 : x5_1 < (l1.length : Int) := of_decide_eq_true (by first | (with_reducible assumption) | assumption)
                obtain ⟨ad155, e155, hx155_0⟩ := Kd.at_int HR1.out x5_1 p155 q155
                cases e155
                replace p155 := eq_true p155
                replace q155 := eq_true q155
                go_wp2
                repeat (go_quiet (fail); try go_wp2)
                go_ret
                exact ⟨by first | rfl | (simp; done) | (simp [*]; done), by repeat (first | exact Drawn0.refl _ | apply Drawn0.step)⟩
            · rw [if_neg c6] at H
              exact absurd H (by simp)
          · rw [if_neg c5] at H
            exact absurd H (by simp)
        · rw [if_neg c4] at H
          have c4b0 : decide (x5_1 < (l0.length : Int)) = false := decide_eq_false c4
          clear c4
          obtain rfl := Option.some.inj H
          go_wp2
          repeat (go_quiet (fail); try go_wp2)
          go_ret
          exact ⟨by first | rfl | (simp; done) | (simp [*]; done), by repeat (first | exact Drawn0.refl _ | apply Drawn0.step)⟩
  · rw [if_neg c3] at H
    have c3b0 : ((l0.length : Int) == (l1.length : Int)) = false := beq_eq_false_iff_ne.mpr c3
    have c3b1 : ((l0.length : Int) != (l1.length : Int)) = true := bne_iff_ne.mpr c3
    have c3b2 : (l0.length == l1.length) = false := by first | simpa using c3 | (simp at c3 ⊢; omega)
    obtain rfl := Option.some.inj H
    go_enter Try.func12, Try.ntmps12
    go_wp2
    repeat (go_quiet (fail); try go_wp2)
    go_ret
    exact ⟨by first | rfl | (simp; done) | (simp [*]; done), by repeat (first | exact Drawn0.refl _ | apply Drawn0.step)⟩

/-! ### tattingref1_Few: function 16 -/
def tattingref1_Few.l0 : Nat → List Int → Int → List Int → Int → Option (List Int)
  | 0, _, _, _, _ => none
  | k + 1, x0, x1, x5, x6 => if x6 < (x0.length : Int) then (if 0 ≤ x6 then (if x1 = 0 then (none) else (if (Int.tmod (rd x0 x6) x1) < 0 then (if x5.length < 17592186044416 then (tattingref1_Few.l0 k x0 x1 (x5 ++ [wrap64 ((Int.tmod (rd x0 x6) x1) + x1)]) (wrap64 (x6 + 1))) else (none)) else (if x5.length < 17592186044416 then (tattingref1_Few.l0 k x0 x1 (x5 ++ [Int.tmod (rd x0 x6) x1]) (wrap64 (x6 + 1))) else (none)))) else (none)) else (some x5)
def tattingref1_Few.f (k : Nat) (l0 : List Int) (a1 : Int) : Option (List Int) := tattingref1_Few.l0 k l0 a1 ([] : List Int) 0
theorem tattingref1_Few.mono_l : ∀ k, (∀ y0 y1 y2 y3, LeO (tattingref1_Few.l0 k y0 y1 y2 y3) (tattingref1_Few.l0 (k + 1) y0 y1 y2 y3))
  | 0 => fun _ _ _ _ r h => by simp [tattingref1_Few.l0] at h
  | k + 1 => by
    have ih0 := tattingref1_Few.mono_l k
    · intro y0 y1 y2 y3
      unfold tattingref1_Few.l0
      repeat' first
      | (with_reducible exact ih0 _ _ _ _)
      | (with_reducible exact LeO.refl _)
      | (with_reducible exact LeO.none _)
      | (with_reducible refine LeO.ite ?_ ?_)
      | (with_reducible refine LeO.bind ?_ (fun _ => ?_))
      | exact ih0 _ _ _ _
      | exact LeO.none _
      | refine LeO.ite ?_ ?_
      | refine LeO.bind ?_ (fun _ => ?_)
theorem tattingref1_Few.mono : ∀ a0 a1 k, LeO (tattingref1_Few.f k a0 a1) (tattingref1_Few.f (k + 1) a0 a1) := by
  intro a0 a1 k
  have ih0 := tattingref1_Few.mono_l k
  unfold tattingref1_Few.f
  repeat' first
      | (with_reducible exact ih0 _ _ _ _)
      | (with_reducible exact LeO.refl _)
      | (with_reducible exact LeO.none _)
      | (with_reducible refine LeO.ite ?_ ?_)
      | (with_reducible refine LeO.bind ?_ (fun _ => ?_))
      | exact ih0 _ _ _ _
      | exact LeO.none _
      | refine LeO.ite ?_ ?_
      | refine LeO.bind ?_ (fun _ => ?_)
set_option maxHeartbeats 8000000 in
set_option maxRecDepth 100000 in
theorem tattingref1_Few.calls (k : Nat) (A0 : Option Addr) (c0 : Nat) (l0 : List Int) (a1 : Int) (r : List Int) (w : World) (hr0 : Kd.C (Kd.int .i64) w A0 l0.length l0) (hc0 : l0.length ≤ c0) (h : tattingref1_Few.f k l0 a1 = some r) :
    Calls Try.prog 16 #[.slice A0 l0.length c0, .int .i64 a1] w fun e w' => ∃ v0_ : Value, e = .returned (v0_) ∧ Kd.R (Kd.int .i64) 3 w' w.heap.size (fun _ => True) v0_ r ∧ Below w.heap.size w w' := by
  have HR0 := Aside0.mk hr0
  have HC0 := Aside0.mk hc0
  clear hr0 hc0
  have HB := Aside0.mk (Below.refl w.heap.size w)
  have H : (tattingref1_Few.l0 k l0 a1 ([] : List Int) 0) = some r := h
  clear h
  have H' := Aside0.mk H
  clear H
  go_enter Try.func16, Try.ntmps16
  go_wp2
  go_loopg [5, 6] k (fun kq v5 v6 w' => ∃ (x5_1 : List Int) (x6_1 : Int), v6 = .int .i64 x6_1 ∧ Aside0 (tattingref1_Few.l0 kq l0 a1 x5_1 x6_1 = some r) ∧ Aside0 (kq ≤ k) ∧ Aside0 (Kd.R (Kd.int .i64) 3 w' w.heap.size (fun _ => True) v5 x5_1) ∧ Aside0 (Below w.heap.size w w'))
  case atStart => exact ⟨(([] : List Int)), (0), (by first | rfl | (simp; done) | (simp [*]; done)), H', ⟨Nat.le_refl _⟩, ⟨by first | exact Kd.R_nil _ _ _ _ _ | exact Kd.N_nil _ _ _ _ _ | exact Kd.V_nil _ _ _ _ _ | exact Kd.Q_nil _ _ _ _ _ | exact Kd.S_nil _ _ _ _ _⟩, ⟨by repeat (first | (with_reducible first | exact HB.out | apply below_alloc | apply pw_below_drewN | apply below_drew1) | exact HB.out)⟩⟩
  case round =>
    clear H'
    try clear c1
    try clear p2
    obtain ⟨x5_1, x6_1, rfl, HA, HK1, HO_5, HB⟩ := hrel
    cases gk with
    | zero => exact absurd HA.out (by simp [tattingref1_Few.l0])
    | succ k1 =>
      have H := HA.out
      clear HA
      simp only [tattingref1_Few.l0] at H
      by_cases c3 : x6_1 < (l0.length : Int)
      · rw [if_pos c3] at H
        have c3b0 : decide (x6_1 < (l0.length : Int)) = true := decide_eq_true c3
        clear c3
        by_cases c4 : 0 ≤ x6_1
        · rw [if_pos c4] at H
          have c4b0 : decide (0 ≤ x6_1) = true := decide_eq_true c4
          clear c4
          by_cases c5 : a1 = 0
          · rw [if_pos c5] at H
            exact absurd H (by simp)
          · rw [if_neg c5] at H
            have c5b0 : (a1 == 0) = false := beq_eq_false_iff_ne.mpr c5
            have c5b1 : (a1 != 0) = true := bne_iff_ne.mpr c5
            by_cases c6 : (Int.tmod (rd l0 x6_1) a1) < 0
            · rw [if_pos c6] at H
              have c6b0 : decide ((Int.tmod (rd l0 x6_1) a1) < 0) = true := decide_eq_true c6
              clear c6
              by_cases c7 : x5_1.length < 17592186044416
              · rw [if_pos c7] at H
                have LMc7 := Aside0.mk c7
                clear c7
                obtain ⟨y157, hy157⟩ : ∃ y_ : List Int, y_ = (x5_1 ++ [wrap64 ((Int.tmod (rd l0 x6_1) a1) + a1)]) := ⟨_, rfl⟩
                replace H : (tattingref1_Few.l0 k1 l0 a1 y157 (wrap64 (x6_1 + 1))) = some r := by first | (rw [hy157]; with_reducible exact H) | (have H2_ := (Option.bind_some _ _).symm.trans H; rw [hy157]; with_reducible exact H2_) | (have H2_ := (Option.bind_some _ _).symm.trans H; with_reducible exact H2_) | with_reducible exact H | (rw [hy157]; exact H) | exact H
                have Ny157 := Aside0.mk hy157
                clear hy157
                have H' := Aside0.mk H
                clear H
                have p156 : 0 ≤ (x6_1 : Int) := of_decide_eq_true (by first | (with_reducible assumption) | assumption)
                have q156 : x6_1 < (l0.length : Int) := of_decide_eq_true (by first | (with_reducible assumption) | assumption)
                obtain ⟨ad156, e156, hx156_0⟩ := Kd.at_int HR0.out x6_1 p156 q156
                cases e156
                replace hx156_0 := (HB.out.cell (World.block_lt_of_cell? w _ hx156_0)).trans hx156_0
                replace p156 := eq_true p156
                replace q156 := eq_true q156
                go_wp2_with (first | ((with_reducible refine gate_builtin (b := .append) (xs := #[.tmp 25, .tmp 27]) rfl ?_); at_builtin; refine Kd.R_append (Kd.int .i64) (w0 := w) w.heap.size rfl (.tmp 25) (.tmp 27) 24 3 (.int .i64 0) 8 rfl Try.underlying24 info3 rfl (by decide) (by omega) u5 x5_1 (wrap64 ((Int.tmod (rd l0 x6_1) a1) + a1)) [.int .i64 (wrap64 ((Int.tmod (rd l0 x6_1) a1) + a1))] (fun _ => True) (fun _ => False) rfl rfl ?aP (fun _ hk => hk.elim) ?aF ?aO ?aB ?aS ?aL ?_; (case aP => exact rfl); (case aB => exact (by repeat (first | (with_reducible first | exact HB.out | apply below_alloc | apply pw_below_drewN | apply below_drew1) | exact HB.out))); (case aF => exact (fun _ _ => trivial)); (case aO => exact (by (with_reducible repeat (first | apply Kd.R_alloc | apply Kd.R_drewN | apply Kd.R_drew)); exact HO_5.out)); (case aS => exact (below_size (by repeat (first | (with_reducible first | exact HB.out | apply below_alloc | apply pw_below_drewN | apply below_drew1) | exact HB.out)))); (case aL => have := LMc7.out; omega); intro v158 w8 ho hb hg hat; rw [← Ny157.out] at ho; have n0_ := Aside0.mk (hb); have n1_ := Aside0.mk (ho); clear HB; clear HO_5; have HB := n0_; have HO159 := n1_; clear n0_ n1_; (try clear ho); (try clear hb); (try clear hg); (try clear hat)))
                go_roundg k1
                case measure => have := HK1.out; omega
                case rel => exact ⟨(y157), (wrap64 (x6_1 + 1)), (by first | rfl | (simp; done) | (simp [*]; done)), H', ⟨by have := HK1.out; omega⟩, ⟨by (with_reducible repeat (first | apply Kd.R_alloc | apply Kd.R_drewN | apply Kd.R_drew)); exact HO159.out⟩, ⟨by repeat (first | (with_reducible first | exact HB.out | apply below_alloc | apply pw_below_drewN | apply below_drew1) | exact HB.out)⟩⟩
              · rw [if_neg c7] at H
                exact absurd H (by simp)
            · rw [if_neg c6] at H
              have c6b0 : decide ((Int.tmod (rd l0 x6_1) a1) < 0) = false := decide_eq_false c6
              clear c6
              by_cases c9 : x5_1.length < 17592186044416
              · rw [if_pos c9] at H
                have LMc9 := Aside0.mk c9
                clear c9
                obtain ⟨y160, hy160⟩ : ∃ y_ : List Int, y_ = (x5_1 ++ [Int.tmod (rd l0 x6_1) a1]) := ⟨_, rfl⟩
                replace H : (tattingref1_Few.l0 k1 l0 a1 y160 (wrap64 (x6_1 + 1))) = some r := by first | (rw [hy160]; with_reducible exact H) | (have H2_ := (Option.bind_some _ _).symm.trans H; rw [hy160]; with_reducible exact H2_) | (have H2_ := (Option.bind_some _ _).symm.trans H; with_reducible exact H2_) | with_reducible exact H | (rw [hy160]; exact H) | exact H
                have Ny160 := Aside0.mk hy160
                clear hy160
                have H' := Aside0.mk H
                clear H
                have p156 : 0 ≤ (x6_1 : Int) := of_decide_eq_true (by first | (with_reducible assumption) | assumption)
                have q156 : x6_1 < (l0.length : Int) := of_decide_eq_true (by first | (with_reducible assumption) | assumption)
                obtain ⟨ad156, e156, hx156_0⟩ := Kd.at_int HR0.out x6_1 p156 q156
                cases e156
                replace hx156_0 := (HB.out.cell (World.block_lt_of_cell? w _ hx156_0)).trans hx156_0
                replace p156 := eq_true p156
                replace q156 := eq_true q156
                go_wp2_with (first | ((with_reducible refine gate_builtin (b := .append) (xs := #[.tmp 25, .tmp 27]) rfl ?_); at_builtin; refine Kd.R_append (Kd.int .i64) (w0 := w) w.heap.size rfl (.tmp 25) (.tmp 27) 24 3 (.int .i64 0) 8 rfl Try.underlying24 info3 rfl (by decide) (by omega) u5 x5_1 (Int.tmod (rd l0 x6_1) a1) [.int .i64 (Int.tmod (rd l0 x6_1) a1)] (fun _ => True) (fun _ => False) rfl rfl ?aP (fun _ hk => hk.elim) ?aF ?aO ?aB ?aS ?aL ?_; (case aP => exact rfl); (case aB => exact (by repeat (first | (with_reducible first | exact HB.out | apply below_alloc | apply pw_below_drewN | apply below_drew1) | exact HB.out))); (case aF => exact (fun _ _ => trivial)); (case aO => exact (by (with_reducible repeat (first | apply Kd.R_alloc | apply Kd.R_drewN | apply Kd.R_drew)); exact HO_5.out)); (case aS => exact (below_size (by repeat (first | (with_reducible first | exact HB.out | apply below_alloc | apply pw_below_drewN | apply below_drew1) | exact HB.out)))); (case aL => have := LMc9.out; omega); intro v161 w10 ho hb hg hat; rw [← Ny160.out] at ho; have n0_ := Aside0.mk (hb); have n1_ := Aside0.mk (ho); clear HB; clear HO_5; have HB := n0_; have HO162 := n1_; clear n0_ n1_; (try clear ho); (try clear hb); (try clear hg); (try clear hat)))
                go_roundg k1
                case measure => have := HK1.out; omega
                case rel => exact ⟨(y160), (wrap64 (x6_1 + 1)), (by first | rfl | (simp; done) | (simp [*]; done)), H', ⟨by have := HK1.out; omega⟩, ⟨by (with_reducible repeat (first | apply Kd.R_alloc | apply Kd.R_drewN | apply Kd.R_drew)); exact HO162.out⟩, ⟨by repeat (first | (with_reducible first | exact HB.out | apply below_alloc | apply pw_below_drewN | apply below_drew1) | exact HB.out)⟩⟩
              · rw [if_neg c9] at H
                exact absurd H (by simp)
        · rw [if_neg c4] at H
          exact absurd H (by simp)
      · rw [if_neg c3] at H
        have c3b0 : decide (x6_1 < (l0.length : Int)) = false := decide_eq_false c3
        clear c3
        obtain rfl := Option.some.inj H
        go_wp2
        go_ret
        exact ⟨_, by first | rfl | (simp [errW_none, errW_some] <;> rfl) | (simp [*, errW_none, errW_some] <;> rfl), by (with_reducible repeat (first | apply Kd.R_alloc | apply Kd.R_drewN | apply Kd.R_drew)); exact HO_5.out, by repeat (first | (with_reducible first | exact HB.out | apply below_alloc | apply pw_below_drewN | apply below_drew1) | exact HB.out)⟩

end Go.Proofs.Yteijoilcffhomaa.POnpFar
