/- What the given program's functions come to, each a Lean function and the walk that shows it: no condition beside those that each theorem names. -/
import Derived.Test.YtlodaoijokfblaaPPatchMadex0
import Derived.Test.YtlodaoijokfblaaPPatchMadex1
namespace Go.Proofs.Ytlodaoijokfblaa.PPatchMade
open Go.RowKit Go.Proofs.YtlodaoijokfblaaW.PrintWords Go.Proofs.YtlodaoijokfblaaW.PrintLast Go.Proofs.YtlodaoijokfblaaW.PrintMore
attribute [local go_sem] max2_int min2_int max_two min_two max_three min_three max_four min_four   -- for this text's walks alone
set_option linter.unusedVariables false
set_option linter.unusedSimpArgs false

/-! ### patch_Invert: function 10, by hand -/
theorem info28_ : (Try.prog.info? 28).map (fun i => (i.zero, i.size, i.bytes)) = some (some (.agg #[(.int .i64 0), (.slice none 0 0), (.slice none 0 0)]), 3, 56) := by kernel_rfl
def small60 (x : Int) : Bool := decide (-1152921504606846976 ≤ x ∧ x ≤ 1152921504606846976)
def patch_Invert.l0 : List S28 → List S28 → Int → Option (List S28 × Int)
 | [], t, _ => some (t, 0)
 | h :: s, t, sh => if small60 h.f0 = true ∧ small60 sh = true then (if h.f0 + sh > 1048576 then some ([], 2) else if t.length < 100000000 then ((patch_more.f [] h.f2).bind fun n => (patch_more.f [] h.f1).bind fun o => patch_Invert.l0 s (t ++ [⟨h.f0 + sh, n, o⟩]) (sh + ((h.f2.length : Int) - (h.f1.length : Int)))) else none) else none
def patch_Invert.f (k : Nat) (s : List S28) : Option (List S28 × Int) := (edit_Good.f k s).bind fun g => if g = true then patch_Invert.l0 s [] 0 else some ([], 1)
theorem patch_Invert.mono : ∀ a0 k, LeO (patch_Invert.f k a0) (patch_Invert.f (k + 1) a0) := fun _ _ => LeO.bind (edit_Good.mono _ _) fun _ => LeO.refl _
theorem patch_more_short {l0 l1 r : List (List Int)} (h : patch_more.f l0 l1 = some r) : l1.length < 100000000 := by
 unfold patch_more.f at h
 by_cases hlen : l0.length + l1.length < 100000000
 ·omega
 ·rw [if_neg hlen] at h; cases h
set_option maxHeartbeats 8000000 in
set_option maxRecDepth 100000 in
theorem patch_Invert.calls (k : Nat) (A0 : Option Addr) (c0 : Nat) (l0 : List S28) (r1 : List S28) (r2 : Int) (w : World) (hr0 : Kd.C k28 w A0 l0.length l0) (hc0 : l0.length ≤ c0) (h : patch_Invert.f k l0 = some (r1, r2)) :
  Calls Try.prog 10 #[.slice A0 l0.length c0] w fun e w' => ∃ v0_ : Value, e = .returned (.tuple #[v0_, .int .i64 r2]) ∧ Kd.N k28 28 w' w.heap.size (fun k_ => w.heap.size ≤ k_) v0_ r1 ∧ Below w.heap.size w w' := by
 have HR0 := Aside0.mk hr0
 have HC0 := Aside0.mk hc0
 have hm0 := Kd.C_max hr0
 have HB := Aside0.mk (Below.refl w.heap.size w)
 clear hr0 hc0
 have hu28 := Try.underlying28
 unfold patch_Invert.f at h
 rw [Option.bind_eq_some_iff] at h
 obtain ⟨g, hg, h⟩ := h
 have AG := Aside0.mk hg
 clear hg
 cases g with
 | false =>
  rw [if_neg (by decide)] at h
  simp only [Option.some.injEq, Prod.mk.injEq] at h
  obtain ⟨rfl, rfl⟩ := h
  go_enter Try.func10, Try.ntmps10
  go_wp2_with (go_at_call 23; (with_reducible refine (edit_Good.calls k _ _ l0 false _ HR0.out HC0.out AG.out).mono ?_); rintro e w1 ⟨rfl, hb⟩; have n0_ := Aside0.mk (below_step HB.out hb); clear HB hb; have HB := n0_; clear n0_)
  go_ret2
  exact ⟨_, rfl, Kd.N_nil _ _ _ _ _, HB.out⟩
 | true =>
  rw [if_pos rfl] at h
  have H := Aside0.mk h
  clear h
  go_enter Try.func10, Try.ntmps10
  go_wp2_with (go_at_call 23; (with_reducible refine (edit_Good.calls k _ _ l0 true _ HR0.out HC0.out AG.out).mono ?_); rintro e w1 ⟨rfl, hb⟩; have n0_ := Aside0.mk (below_step HB.out hb); clear HB hb; have HB := n0_; clear n0_)
  go_loopw [4, 5, 14] (fun s4 s5 ix wr => ∃ (j : Nat) (sh : Int) (t : List S28) (vt : Value), j ≤ l0.length ∧ ix = .int .i64 j ∧ s5 = .int .i64 sh ∧ vt = s4 ∧ Aside0 (patch_Invert.l0 (l0.drop j) t sh = some (r1, r2)) ∧ Aside0 (Kd.R k28 28 wr w.heap.size (fun k_ => w.heap.size ≤ k_) vt t) ∧ Aside0 (Below w.heap.size w wr)) (fun _ _ ix _ => l0.length - (intOf ix).toNat)
  case atStart => exact ⟨0, 0, [], _, Nat.zero_le _, rfl, rfl, rfl, H, ⟨Kd.R_nil _ _ _ _ _⟩, HB⟩
  case round =>
   clear H HB
   obtain ⟨j, sh, t, vt, hj, rfl, rfl, rfl, H, HN, HB⟩ := hrel
   by_cases hjl : j < l0.length
   ·obtain ⟨ad, B1, d1, B2, d2, rfl, hx0, hx1, hx2, hl1, hi1, hl2, hi2⟩ := at_T28 HR0.out (j : Int) (by omega) (by omega)
    simp only [Int.toNat_natCast] at hx0 hx1 hx2
    have e0 : rd_T28 l0 (j : Int) = l0.getD j z28 := rfl
    have h := H.out
    rw [drop_at28 hjl, ← e0] at h
    generalize rd_T28 l0 (j : Int) = x at hx0 hx1 hx2 hl1 hi1 hl2 hi2 h
    rw [patch_Invert.l0] at h
    by_cases hsm : small60 x.f0 = true ∧ small60 sh = true
    ·rw [if_pos hsm] at h
     obtain ⟨hs1, hs2⟩ := hsm
     have hs1 := of_decide_eq_true hs1
     have hs2 := of_decide_eq_true hs2
     obtain ⟨hs3, hs4⟩ := hs1
     obtain ⟨hs5, hs6⟩ := hs2
     have hx0 := pw_cell_below HB.out hx0
     have hx1 := pw_cell_below HB.out hx1
     have hx2 := pw_cell_below HB.out hx2
     have HI1 := Aside0.mk hi1
     have HI2 := Aside0.mk hi2
     have HL1 := Aside0.mk hl1
     have HL2 := Aside0.mk hl2
     clear hi1 hi2 hl1 hl2 H e0
     have AH := Aside0.mk h
     clear h
     go_upto_region 8 with (first
      | ((with_reducible refine gate_dst (N := 7) rfl ?_); refine box_event ?hg (N := 7) ?hd (cs := #[.int .i64 0, .slice none 0 0, .slice none 0 0]) (t := 28) ?hr ?_; (case hd => rfl); (case hg => rfl); (case hr => first | (go_simp; done) | (go_simp; rfl)); intro gb hg w8 hbox hb; have n0_ := Aside0.mk (below_step HB.out hb); have BK := Aside0.mk hbox; have n1_ := Aside0.mk (Kd.R_mono (ok' := fun k_ => w.heap.size ≤ k_ ∧ k_ ≠ gb) (Kd.R_below (Kd.R_bound HN.out) hb) (fun k_ hk => ⟨hk.2.1, by have := hk.2.2.1; omega⟩)); have HBG := Aside0.mk (show w.heap.size ≤ gb by rw [hg]; exact HB.out.size); clear HB HN hb hbox hg; have HB := n0_; have HN := n1_; clear n0_ n1_; have hcz0 := (blk_cell BK.out 0).trans rfl; have hcz1 := (blk_cell BK.out 1).trans rfl; have hcz2 := (blk_cell BK.out 2).trans rfl; have hfz0 := blk_frozen BK.out 0; have hfz1 := blk_frozen BK.out 1; have hfz2 := blk_frozen BK.out 2))
     have hO2 := Kd.R_far (p := ⟨gb, 0, none⟩) HN.out (fun _ hk => hk.2) (.int .i64 x.f0)
     have hO3 := Kd.R_far (p := ⟨gb, 1, none⟩) hO2 (fun _ hk => hk.2) (.slice B1 x.f1.length d1)
     have n0_ := Aside0.mk (Kd.R_far (p := ⟨gb, 2, none⟩) hO3 (fun _ hk => hk.2) (.slice B2 x.f2.length d2))
     have n1_ := Aside0.mk (blk_put (cs' := #[.int .i64 x.f0, .slice B1 x.f1.length d1, .slice B2 x.f2.length d2]) (blk_put (cs' := #[.int .i64 x.f0, .slice B1 x.f1.length d1, .slice none 0 0]) (blk_put (cs' := #[.int .i64 x.f0, .slice none 0 0, .slice none 0 0]) BK.out 0 (.int .i64 x.f0) rfl) 1 (.slice B1 x.f1.length d1) rfl) 2 (.slice B2 x.f2.length d2) rfl)
     have n2_ := Aside0.mk (below_set (j := 2) (v := .slice B2 x.f2.length d2) (below_set (j := 1) (v := .slice B1 x.f1.length d1) (below_set (j := 0) (v := .int .i64 x.f0) HB.out HBG.out) HBG.out) HBG.out)
     clear HN BK HB hO2 hO3 hcz0 hcz1 hcz2 hfz0 hfz1 hfz2
     have HN := n0_
     have BK := n1_
     have HB := n2_
     clear n0_ n1_ n2_
     generalize ((w8.setCell ⟨gb, 0, none⟩ (.int .i64 x.f0)).setCell ⟨gb, 1, none⟩ (.slice B1 x.f1.length d1)).setCell ⟨gb, 2, none⟩ (.slice B2 x.f2.length d2) = wx at HN BK HB ⊢
     have hcz0 : wx.cell? ⟨gb, 0, none⟩ = some (.int .i64 x.f0) := (blk_cell BK.out 0).trans rfl
     have hcz1 : wx.cell? ⟨gb, 1, none⟩ = some (.slice B1 x.f1.length d1) := (blk_cell BK.out 1).trans rfl
     have h := AH.out
     by_cases hbig : x.f0 + sh > 1048576
     ·rw [if_pos hbig] at h
      simp only [Option.some.injEq, Prod.mk.injEq] at h
      obtain ⟨rfl, rfl⟩ := h
      go_wp2
      go_ret2
      exact ⟨_, rfl, Kd.N_nil _ _ _ _ _, HB.out⟩
     ·rw [if_neg hbig] at h
      by_cases htl : t.length < 100000000
      ·rw [if_pos htl, Option.bind_eq_some_iff] at h
       obtain ⟨n, hn, h⟩ := h
       rw [Option.bind_eq_some_iff] at h
       obtain ⟨o, ho, h⟩ := h
       have hn1 := patch_more_short hn
       have ho1 := patch_more_short ho
       have AN := Aside0.mk hn
       have AO := Aside0.mk ho
       have AH := Aside0.mk h
       have HTL := Aside0.mk htl
       clear hn ho h htl
       go_upto_region 11 with fail
       have n0_ := Aside0.mk (below_drew HB.out)
       have n1_ := Aside0.mk (Kd.R_below HN.out (below_drew (Below.refl wx.heap.size wx)))
       have n2_ := Aside0.mk (show wx.drew.heap[gb]? = _ from BK.out)
       clear HB HN BK hcz0 hcz1
       have HB := n0_
       have HN := n1_
       have BK := n2_
       clear n0_ n1_ n2_
       have hcz1 : wx.drew.cell? ⟨gb, 1, none⟩ = some (.slice B1 x.f1.length d1) := (blk_cell BK.out 1).trans rfl
       have hcz2 : wx.drew.cell? ⟨gb, 2, none⟩ = some (.slice B2 x.f2.length d2) := (blk_cell BK.out 2).trans rfl
       have HGN := Aside0.mk (show ¬ (vt : Value).ownBlock = some gb from fun e_ => (HN.out.1 gb e_).2 rfl)
       have HNW := Aside0.mk (show ∀ k_, wx.drew.heap.size ≤ k_ → ((w.heap.size ≤ k_ ∧ k_ ≠ gb) ∧ some k_ ≠ (vt : Value).ownBlock) from fun k_ hk => ⟨⟨Nat.le_trans HB.out.size hk, fun e_ => by have := blk_lt BK.out; omega⟩, fun e_ => by have := Kd.R_lt HN.out k_ e_.symm; omega⟩)
       go_cut [4] (fun s4 wr => ∃ vt', s4 = vt' ∧ Aside0 (Kd.R k28 28 wr w.heap.size (fun k_ => w.heap.size ≤ k_) vt' (t ++ [⟨x.f0 + sh, n, o⟩])) ∧ Aside0 (Below w.heap.size w wr) ∧ Aside0 (wr.heap[gb]? = some (.cells #[.int .i64 x.f0, .slice B1 x.f1.length d1, .slice B2 x.f2.length d2] 28 (0, 0))))
       case first =>
        go_region_held3 (fun w' => w'.cell? ⟨gb, 1, none⟩ = some (.slice B1 x.f1.length d1) ∧ w'.cell? ⟨gb, 2, none⟩ = some (.slice B2 x.f2.length d2)) (first | go_keep | exact ⟨(blk_cell BK1.out 1).trans rfl, (blk_cell BK1.out 2).trans rfl⟩ | exact ⟨(blk_cell BK2.out 1).trans rfl, (blk_cell BK2.out 2).trans rfl⟩ | exact ⟨(blk_cell BK3.out 1).trans rfl, (blk_cell BK3.out 2).trans rfl⟩) (first
         | (go_at_call 25; ((with_reducible refine (patch_more.calls wx.drew (.slice none 0 0) [] _ _ x.f2 n _ (Below.refl _ _) (Kd.R_nil _ _ _ _ _) (Kd.C_below HI2.out HB.out) HL2.out AN.out).mono ?_); rintro e w4 ⟨v1, rfl, ho, hb, -, -⟩; obtain ⟨G1, g1, rfl⟩ := Kd.R_slice ho; have BK1 := Aside0.mk (blk_below BK.out hb); have HB1 := Aside0.mk (below_step HB.out hb); have HN1 := Aside0.mk (Kd.R_below HN.out hb); have HV1 := Aside0.mk ho; have hg4 := Aside0.mk hb.size; (try clear ho); (try clear hb)))
         | (go_at_call 25; ((with_reducible refine (patch_more.calls w4 (.slice none 0 0) [] _ _ x.f1 o _ (Below.refl _ _) (Kd.R_nil _ _ _ _ _) (Kd.C_below HI1.out HB1.out) HL1.out AO.out).mono ?_); rintro e w5 ⟨v2, rfl, ho, hb, -, -⟩; obtain ⟨G2, g2, rfl⟩ := Kd.R_slice ho; have BK2 := Aside0.mk (blk_below BK1.out hb); have HB2 := Aside0.mk (below_step HB1.out hb); have HN2 := Aside0.mk (Kd.R_below HN1.out hb); have HV2 := Aside0.mk ho; have HV1b := Aside0.mk (Kd.R_below HV1.out hb); have hgl := Aside0.mk (blk_lt BK.out); have hg5 := Aside0.mk hb.size; (try clear ho); (try clear hb)))
         | (refine Kd.R_append_step k28 (w0 := w) w.heap.size (by rfl) (.tmp 24) (.tmp 33) 29 28 (.agg #[(.int .i64 0), (.slice none 0 0), (.slice none 0 0)]) 56 rfl Try.underlying29 info28_ rfl (by decide) (by omega) vt t ⟨x.f0 + sh, n, o⟩ [.int .i64 (x.f0 + sh), .slice G1 n.length g1, .slice G2 o.length g2] (fun k_ => w.heap.size ≤ k_ ∧ k_ ≠ gb) (fun k_ => (w.heap.size ≤ k_ ∧ k_ ≠ gb) ∧ some k_ ≠ (vt : Value).ownBlock) rfl rfl ?aP (fun _ hk => hk) ?aF ?aO ?aB ?aS ?aL ?_; (case aP => exact k28_mkM _ _ _ (⟨x.f0 + sh, n, o⟩ : S28) (Kd.R_mono (ok' := fun k_ => (w.heap.size ≤ k_ ∧ k_ ≠ gb) ∧ some k_ ≠ (vt : Value).ownBlock) (Kd.R_lower (Kd.R_bound HV1b.out) HB.out.size) (fun k_ hk => HNW.out k_ hk.2.1)) (Kd.R_mono (ok' := fun k_ => (w.heap.size ≤ k_ ∧ k_ ≠ gb) ∧ some k_ ≠ (vt : Value).ownBlock) (Kd.R_lower (Kd.R_bound HV2.out) HB1.out.size) (fun k_ hk => HNW.out k_ (Nat.le_trans hg4.out hk.2.1)))); (case aF => exact fun k_ hk => (HNW.out k_ (Nat.le_trans hg4.out (Nat.le_trans hg5.out hk))).1); (case aO => exact HN2.out); (case aB => exact HB2.out); (case aS => exact HB2.out.size); (case aL => have := HTL.out; omega); intro v3 w6 ho hb hg hat; have BK3 := Aside0.mk (blk_grown BK2.out hg (fun e_ => HGN.out e_.symm)); have HB3 := Aside0.mk hb; have HN3 := Aside0.mk (Kd.R_mono (ok' := fun k_ => w.heap.size ≤ k_) ho (fun _ hk => hk.1)); (try clear ho); (try clear hb); (try clear hg); (try clear hat)))
        go_wp2_with fail
        go_meet
        exact ⟨_, rfl, HN3, HB3, BK3⟩
       case rest =>
        clear HB HN BK HGN HNW hcz1 hcz2
        obtain ⟨vt', rfl, HN, HB, BK⟩ := hcut
        have hcz1 : wc.cell? ⟨gb, 1, none⟩ = some (.slice B1 x.f1.length d1) := (blk_cell BK.out 1).trans rfl
        have hcz2 : wc.cell? ⟨gb, 2, none⟩ = some (.slice B2 x.f2.length d2) := (blk_cell BK.out 2).trans rfl
        go_wp2
        go_roundw
        case rel => exact ⟨j + 1, sh + ((x.f2.length : Int) - (x.f1.length : Int)), t ++ [⟨x.f0 + sh, n, o⟩], _, by omega, by go_num, by first | rfl | go_num, rfl, AH, HN, HB⟩
        case measure => simp [intOf]; omega
      ·rw [if_neg htl] at h; cases h
    ·rw [if_neg hsm] at h; cases h
   ·obtain rfl : j = l0.length := by omega
    have h := H.out
    rw [List.drop_length, patch_Invert.l0] at h
    simp only [Option.some.injEq, Prod.mk.injEq] at h
    obtain ⟨rfl, rfl⟩ := h
    go_wp2
    go_ret2
    exact ⟨_, rfl, Kd.R_N HN.out, HB.out⟩

/-! ### tattinglaw25_awake: function 11 -/
def tattinglaw25_awake.f (k : Nat)  : Option (Bool) := (some (([(⟨0, (([(([97] : List Int))] : List (List Int))), ([] : List (List Int))⟩ : S28), (⟨2, ([] : List (List Int)), (([(([99] : List Int))] : List (List Int)))⟩ : S28)] : List (S28)) : List (S28))).bind fun y130 => ((patch_Apply.f k y130 (([(([97] : List Int)), (([98] : List Int))] : List (List Int)))).bind fun bt142 => ((patch_Invert.f k y130).bind fun bt146 => (if bt142.2 = 0 then (if (bt142.1.length : Int) = 2 then (if 0 < (bt142.1.length : Int) then (if (strOfNums (rd_L1 bt142.1 0)).toList = ([98] : List UInt8) then (if 1 < (bt142.1.length : Int) then (if (strOfNums (rd_L1 bt142.1 1)).toList = ([99] : List UInt8) then (if bt146.2 = 0 then (if (bt146.1.length : Int) = 2 then (if 0 < (bt146.1.length : Int) then (if ((rd_T28 bt146.1 0).f0) = 0 then (if (((rd_T28 bt146.1 0).f2).length : Int) = 1 then (if 1 < (bt146.1.length : Int) then (if ((rd_T28 bt146.1 1).f0) = 1 then (some ((((rd_T28 bt146.1 1).f1).length : Int) == 1)) else (some false)) else (none)) else (some false)) else (some false)) else (none)) else (some false)) else (some false)) else (some false)) else (none)) else (some false)) else (none)) else (some false)) else (some false))))
theorem tattinglaw25_awake.mono : ∀ k, LeO (tattinglaw25_awake.f k ) (tattinglaw25_awake.f (k + 1) ) := by
 intro  k
 unfold tattinglaw25_awake.f
 repeat' first
   | (with_reducible exact patch_Apply.mono _ _ _)
   | (with_reducible exact patch_Invert.mono _ _)
   | (with_reducible exact LeO.refl _)
   | (with_reducible exact LeO.none _)
   | (with_reducible refine LeO.ite ?_ ?_)
   | (with_reducible refine LeO.bind ?_ (fun _ => ?_))
   | exact patch_Apply.mono _ _ _
   | exact patch_Invert.mono _ _
   | exact LeO.none _
   | refine LeO.ite ?_ ?_
   | refine LeO.bind ?_ (fun _ => ?_)
set_option maxHeartbeats 8000000 in
set_option maxRecDepth 100000 in
theorem tattinglaw25_awake.calls (k : Nat)  (r : Bool) (w : World) (h : tattinglaw25_awake.f k  = some r) (hr_ : r = true) :
  Calls Try.prog 11 #[] w fun e w' => e = .returned (.bool r) ∧ Below w.heap.size w w' := by
 have hu28 := Try.underlying28
 have HB := Aside0.mk (Below.refl w.heap.size w)
 have H : ((some (([(⟨0, (([(([97] : List Int))] : List (List Int))), ([] : List (List Int))⟩ : S28), (⟨2, ([] : List (List Int)), (([(([99] : List Int))] : List (List Int)))⟩ : S28)] : List (S28)) : List (S28))).bind fun y130 => ((patch_Apply.f k y130 (([(([97] : List Int)), (([98] : List Int))] : List (List Int)))).bind fun bt142 => ((patch_Invert.f k y130).bind fun bt146 => (if bt142.2 = 0 then (if (bt142.1.length : Int) = 2 then (if 0 < (bt142.1.length : Int) then (if (strOfNums (rd_L1 bt142.1 0)).toList = ([98] : List UInt8) then (if 1 < (bt142.1.length : Int) then (if (strOfNums (rd_L1 bt142.1 1)).toList = ([99] : List UInt8) then (if bt146.2 = 0 then (if (bt146.1.length : Int) = 2 then (if 0 < (bt146.1.length : Int) then (if ((rd_T28 bt146.1 0).f0) = 0 then (if (((rd_T28 bt146.1 0).f2).length : Int) = 1 then (if 1 < (bt146.1.length : Int) then (if ((rd_T28 bt146.1 1).f0) = 1 then (some ((((rd_T28 bt146.1 1).f1).length : Int) == 1)) else (some false)) else (none)) else (some false)) else (some false)) else (none)) else (some false)) else (some false)) else (some false)) else (none)) else (some false)) else (none)) else (some false)) else (some false))))) = some r := h
 clear h
 obtain ⟨y118, hy118⟩ : ∃ y_ : List Int, y_ = (([97] : List Int)) := ⟨_, rfl⟩
 replace H : ((some (([(⟨0, (([y118] : List (List Int))), ([] : List (List Int))⟩ : S28), (⟨2, ([] : List (List Int)), (([(([99] : List Int))] : List (List Int)))⟩ : S28)] : List (S28)) : List (S28))).bind fun y130 => ((patch_Apply.f k y130 (([(([97] : List Int)), (([98] : List Int))] : List (List Int)))).bind fun bt142 => ((patch_Invert.f k y130).bind fun bt146 => (if bt142.2 = 0 then (if (bt142.1.length : Int) = 2 then (if 0 < (bt142.1.length : Int) then (if (strOfNums (rd_L1 bt142.1 0)).toList = ([98] : List UInt8) then (if 1 < (bt142.1.length : Int) then (if (strOfNums (rd_L1 bt142.1 1)).toList = ([99] : List UInt8) then (if bt146.2 = 0 then (if (bt146.1.length : Int) = 2 then (if 0 < (bt146.1.length : Int) then (if ((rd_T28 bt146.1 0).f0) = 0 then (if (((rd_T28 bt146.1 0).f2).length : Int) = 1 then (if 1 < (bt146.1.length : Int) then (if ((rd_T28 bt146.1 1).f0) = 1 then (some ((((rd_T28 bt146.1 1).f1).length : Int) == 1)) else (some false)) else (none)) else (some false)) else (some false)) else (none)) else (some false)) else (some false)) else (some false)) else (none)) else (some false)) else (none)) else (some false)) else (some false))))) = some r := by first | (rw [hy118]; with_reducible exact H) | (have H2_ := (Option.bind_some _ _).symm.trans H; rw [hy118]; with_reducible exact H2_) | (have H2_ := (Option.bind_some _ _).symm.trans H; with_reducible exact H2_) | with_reducible exact H | (rw [hy118]; exact H) | exact H
 have Ny118 := Aside0.mk hy118
 clear hy118
 obtain ⟨y121, hy121⟩ : ∃ y_ : List (List Int), y_ = (([y118] : List (List Int))) := ⟨_, rfl⟩
 replace H : ((some (([(⟨0, y121, ([] : List (List Int))⟩ : S28), (⟨2, ([] : List (List Int)), (([(([99] : List Int))] : List (List Int)))⟩ : S28)] : List (S28)) : List (S28))).bind fun y130 => ((patch_Apply.f k y130 (([(([97] : List Int)), (([98] : List Int))] : List (List Int)))).bind fun bt142 => ((patch_Invert.f k y130).bind fun bt146 => (if bt142.2 = 0 then (if (bt142.1.length : Int) = 2 then (if 0 < (bt142.1.length : Int) then (if (strOfNums (rd_L1 bt142.1 0)).toList = ([98] : List UInt8) then (if 1 < (bt142.1.length : Int) then (if (strOfNums (rd_L1 bt142.1 1)).toList = ([99] : List UInt8) then (if bt146.2 = 0 then (if (bt146.1.length : Int) = 2 then (if 0 < (bt146.1.length : Int) then (if ((rd_T28 bt146.1 0).f0) = 0 then (if (((rd_T28 bt146.1 0).f2).length : Int) = 1 then (if 1 < (bt146.1.length : Int) then (if ((rd_T28 bt146.1 1).f0) = 1 then (some ((((rd_T28 bt146.1 1).f1).length : Int) == 1)) else (some false)) else (none)) else (some false)) else (some false)) else (none)) else (some false)) else (some false)) else (some false)) else (none)) else (some false)) else (none)) else (some false)) else (some false))))) = some r := by first | (rw [hy121]; with_reducible exact H) | (have H2_ := (Option.bind_some _ _).symm.trans H; rw [hy121]; with_reducible exact H2_) | (have H2_ := (Option.bind_some _ _).symm.trans H; with_reducible exact H2_) | with_reducible exact H | (rw [hy121]; exact H) | exact H
 have Ny121 := Aside0.mk hy121
 clear hy121
 obtain ⟨y124, hy124⟩ : ∃ y_ : List Int, y_ = (([99] : List Int)) := ⟨_, rfl⟩
 replace H : ((some (([(⟨0, y121, ([] : List (List Int))⟩ : S28), (⟨2, ([] : List (List Int)), (([y124] : List (List Int)))⟩ : S28)] : List (S28)) : List (S28))).bind fun y130 => ((patch_Apply.f k y130 (([(([97] : List Int)), (([98] : List Int))] : List (List Int)))).bind fun bt142 => ((patch_Invert.f k y130).bind fun bt146 => (if bt142.2 = 0 then (if (bt142.1.length : Int) = 2 then (if 0 < (bt142.1.length : Int) then (if (strOfNums (rd_L1 bt142.1 0)).toList = ([98] : List UInt8) then (if 1 < (bt142.1.length : Int) then (if (strOfNums (rd_L1 bt142.1 1)).toList = ([99] : List UInt8) then (if bt146.2 = 0 then (if (bt146.1.length : Int) = 2 then (if 0 < (bt146.1.length : Int) then (if ((rd_T28 bt146.1 0).f0) = 0 then (if (((rd_T28 bt146.1 0).f2).length : Int) = 1 then (if 1 < (bt146.1.length : Int) then (if ((rd_T28 bt146.1 1).f0) = 1 then (some ((((rd_T28 bt146.1 1).f1).length : Int) == 1)) else (some false)) else (none)) else (some false)) else (some false)) else (none)) else (some false)) else (some false)) else (some false)) else (none)) else (some false)) else (none)) else (some false)) else (some false))))) = some r := by first | (rw [hy124]; with_reducible exact H) | (have H2_ := (Option.bind_some _ _).symm.trans H; rw [hy124]; with_reducible exact H2_) | (have H2_ := (Option.bind_some _ _).symm.trans H; with_reducible exact H2_) | with_reducible exact H | (rw [hy124]; exact H) | exact H
 have Ny124 := Aside0.mk hy124
 clear hy124
 obtain ⟨y127, hy127⟩ : ∃ y_ : List (List Int), y_ = (([y124] : List (List Int))) := ⟨_, rfl⟩
 replace H : ((some (([(⟨0, y121, ([] : List (List Int))⟩ : S28), (⟨2, ([] : List (List Int)), y127⟩ : S28)] : List (S28)) : List (S28))).bind fun y130 => ((patch_Apply.f k y130 (([(([97] : List Int)), (([98] : List Int))] : List (List Int)))).bind fun bt142 => ((patch_Invert.f k y130).bind fun bt146 => (if bt142.2 = 0 then (if (bt142.1.length : Int) = 2 then (if 0 < (bt142.1.length : Int) then (if (strOfNums (rd_L1 bt142.1 0)).toList = ([98] : List UInt8) then (if 1 < (bt142.1.length : Int) then (if (strOfNums (rd_L1 bt142.1 1)).toList = ([99] : List UInt8) then (if bt146.2 = 0 then (if (bt146.1.length : Int) = 2 then (if 0 < (bt146.1.length : Int) then (if ((rd_T28 bt146.1 0).f0) = 0 then (if (((rd_T28 bt146.1 0).f2).length : Int) = 1 then (if 1 < (bt146.1.length : Int) then (if ((rd_T28 bt146.1 1).f0) = 1 then (some ((((rd_T28 bt146.1 1).f1).length : Int) == 1)) else (some false)) else (none)) else (some false)) else (some false)) else (none)) else (some false)) else (some false)) else (some false)) else (none)) else (some false)) else (none)) else (some false)) else (some false))))) = some r := by first | (rw [hy127]; with_reducible exact H) | (have H2_ := (Option.bind_some _ _).symm.trans H; rw [hy127]; with_reducible exact H2_) | (have H2_ := (Option.bind_some _ _).symm.trans H; with_reducible exact H2_) | with_reducible exact H | (rw [hy127]; exact H) | exact H
 have Ny127 := Aside0.mk hy127
 clear hy127
 obtain ⟨y130, hy130⟩ : ∃ y_ : List (S28), y_ = (([(⟨0, y121, ([] : List (List Int))⟩ : S28), (⟨2, ([] : List (List Int)), y127⟩ : S28)] : List (S28))) := ⟨_, rfl⟩
 replace H : ((patch_Apply.f k y130 (([(([97] : List Int)), (([98] : List Int))] : List (List Int)))).bind fun bt142 => ((patch_Invert.f k y130).bind fun bt146 => (if bt142.2 = 0 then (if (bt142.1.length : Int) = 2 then (if 0 < (bt142.1.length : Int) then (if (strOfNums (rd_L1 bt142.1 0)).toList = ([98] : List UInt8) then (if 1 < (bt142.1.length : Int) then (if (strOfNums (rd_L1 bt142.1 1)).toList = ([99] : List UInt8) then (if bt146.2 = 0 then (if (bt146.1.length : Int) = 2 then (if 0 < (bt146.1.length : Int) then (if ((rd_T28 bt146.1 0).f0) = 0 then (if (((rd_T28 bt146.1 0).f2).length : Int) = 1 then (if 1 < (bt146.1.length : Int) then (if ((rd_T28 bt146.1 1).f0) = 1 then (some ((((rd_T28 bt146.1 1).f1).length : Int) == 1)) else (some false)) else (none)) else (some false)) else (some false)) else (none)) else (some false)) else (some false)) else (some false)) else (none)) else (some false)) else (none)) else (some false)) else (some false)))) = some r := by first | (rw [hy130]; with_reducible exact H) | (have H2_ := (Option.bind_some _ _).symm.trans H; rw [hy130]; with_reducible exact H2_) | (have H2_ := (Option.bind_some _ _).symm.trans H; with_reducible exact H2_) | with_reducible exact H | (rw [hy130]; exact H) | exact H
 have Ny130 := Aside0.mk hy130
 clear hy130
 obtain ⟨y133, hy133⟩ : ∃ y_ : List Int, y_ = (([97] : List Int)) := ⟨_, rfl⟩
 replace H : ((patch_Apply.f k y130 (([y133, (([98] : List Int))] : List (List Int)))).bind fun bt142 => ((patch_Invert.f k y130).bind fun bt146 => (if bt142.2 = 0 then (if (bt142.1.length : Int) = 2 then (if 0 < (bt142.1.length : Int) then (if (strOfNums (rd_L1 bt142.1 0)).toList = ([98] : List UInt8) then (if 1 < (bt142.1.length : Int) then (if (strOfNums (rd_L1 bt142.1 1)).toList = ([99] : List UInt8) then (if bt146.2 = 0 then (if (bt146.1.length : Int) = 2 then (if 0 < (bt146.1.length : Int) then (if ((rd_T28 bt146.1 0).f0) = 0 then (if (((rd_T28 bt146.1 0).f2).length : Int) = 1 then (if 1 < (bt146.1.length : Int) then (if ((rd_T28 bt146.1 1).f0) = 1 then (some ((((rd_T28 bt146.1 1).f1).length : Int) == 1)) else (some false)) else (none)) else (some false)) else (some false)) else (none)) else (some false)) else (some false)) else (some false)) else (none)) else (some false)) else (none)) else (some false)) else (some false)))) = some r := by first | (rw [hy133]; with_reducible exact H) | (have H2_ := (Option.bind_some _ _).symm.trans H; rw [hy133]; with_reducible exact H2_) | (have H2_ := (Option.bind_some _ _).symm.trans H; with_reducible exact H2_) | with_reducible exact H | (rw [hy133]; exact H) | exact H
 have Ny133 := Aside0.mk hy133
 clear hy133
 obtain ⟨y136, hy136⟩ : ∃ y_ : List Int, y_ = (([98] : List Int)) := ⟨_, rfl⟩
 replace H : ((patch_Apply.f k y130 (([y133, y136] : List (List Int)))).bind fun bt142 => ((patch_Invert.f k y130).bind fun bt146 => (if bt142.2 = 0 then (if (bt142.1.length : Int) = 2 then (if 0 < (bt142.1.length : Int) then (if (strOfNums (rd_L1 bt142.1 0)).toList = ([98] : List UInt8) then (if 1 < (bt142.1.length : Int) then (if (strOfNums (rd_L1 bt142.1 1)).toList = ([99] : List UInt8) then (if bt146.2 = 0 then (if (bt146.1.length : Int) = 2 then (if 0 < (bt146.1.length : Int) then (if ((rd_T28 bt146.1 0).f0) = 0 then (if (((rd_T28 bt146.1 0).f2).length : Int) = 1 then (if 1 < (bt146.1.length : Int) then (if ((rd_T28 bt146.1 1).f0) = 1 then (some ((((rd_T28 bt146.1 1).f1).length : Int) == 1)) else (some false)) else (none)) else (some false)) else (some false)) else (none)) else (some false)) else (some false)) else (some false)) else (none)) else (some false)) else (none)) else (some false)) else (some false)))) = some r := by first | (rw [hy136]; with_reducible exact H) | (have H2_ := (Option.bind_some _ _).symm.trans H; rw [hy136]; with_reducible exact H2_) | (have H2_ := (Option.bind_some _ _).symm.trans H; with_reducible exact H2_) | with_reducible exact H | (rw [hy136]; exact H) | exact H
 have Ny136 := Aside0.mk hy136
 clear hy136
 obtain ⟨y139, hy139⟩ : ∃ y_ : List (List Int), y_ = (([y133, y136] : List (List Int))) := ⟨_, rfl⟩
 replace H : ((patch_Apply.f k y130 y139).bind fun bt142 => ((patch_Invert.f k y130).bind fun bt146 => (if bt142.2 = 0 then (if (bt142.1.length : Int) = 2 then (if 0 < (bt142.1.length : Int) then (if (strOfNums (rd_L1 bt142.1 0)).toList = ([98] : List UInt8) then (if 1 < (bt142.1.length : Int) then (if (strOfNums (rd_L1 bt142.1 1)).toList = ([99] : List UInt8) then (if bt146.2 = 0 then (if (bt146.1.length : Int) = 2 then (if 0 < (bt146.1.length : Int) then (if ((rd_T28 bt146.1 0).f0) = 0 then (if (((rd_T28 bt146.1 0).f2).length : Int) = 1 then (if 1 < (bt146.1.length : Int) then (if ((rd_T28 bt146.1 1).f0) = 1 then (some ((((rd_T28 bt146.1 1).f1).length : Int) == 1)) else (some false)) else (none)) else (some false)) else (some false)) else (none)) else (some false)) else (some false)) else (some false)) else (none)) else (some false)) else (none)) else (some false)) else (some false)))) = some r := by first | (rw [hy139]; with_reducible exact H) | (have H2_ := (Option.bind_some _ _).symm.trans H; rw [hy139]; with_reducible exact H2_) | (have H2_ := (Option.bind_some _ _).symm.trans H; with_reducible exact H2_) | with_reducible exact H | (rw [hy139]; exact H) | exact H
 have Ny139 := Aside0.mk hy139
 clear hy139
 replace H := Option.bind_eq_some_iff.mp H
 obtain ⟨⟨t142, t145⟩, A10, H⟩ := H
 replace H : ((patch_Invert.f k y130).bind fun bt146 => (if t145 = 0 then (if (t142.length : Int) = 2 then (if 0 < (t142.length : Int) then (if (strOfNums (rd_L1 t142 0)).toList = ([98] : List UInt8) then (if 1 < (t142.length : Int) then (if (strOfNums (rd_L1 t142 1)).toList = ([99] : List UInt8) then (if bt146.2 = 0 then (if (bt146.1.length : Int) = 2 then (if 0 < (bt146.1.length : Int) then (if ((rd_T28 bt146.1 0).f0) = 0 then (if (((rd_T28 bt146.1 0).f2).length : Int) = 1 then (if 1 < (bt146.1.length : Int) then (if ((rd_T28 bt146.1 1).f0) = 1 then (some ((((rd_T28 bt146.1 1).f1).length : Int) == 1)) else (some false)) else (none)) else (some false)) else (some false)) else (none)) else (some false)) else (some false)) else (some false)) else (none)) else (some false)) else (none)) else (some false)) else (some false))) = some r := H
 have A1 := Aside0.mk A10
 clear A10
 replace H := Option.bind_eq_some_iff.mp H
 obtain ⟨⟨t146, t149⟩, A20, H⟩ := H
 replace H : (if t145 = 0 then (if (t142.length : Int) = 2 then (if 0 < (t142.length : Int) then (if (strOfNums (rd_L1 t142 0)).toList = ([98] : List UInt8) then (if 1 < (t142.length : Int) then (if (strOfNums (rd_L1 t142 1)).toList = ([99] : List UInt8) then (if t149 = 0 then (if (t146.length : Int) = 2 then (if 0 < (t146.length : Int) then (if ((rd_T28 t146 0).f0) = 0 then (if (((rd_T28 t146 0).f2).length : Int) = 1 then (if 1 < (t146.length : Int) then (if ((rd_T28 t146 1).f0) = 1 then (some ((((rd_T28 t146 1).f1).length : Int) == 1)) else (some false)) else (none)) else (some false)) else (some false)) else (none)) else (some false)) else (some false)) else (some false)) else (none)) else (some false)) else (none)) else (some false)) else (some false)) = some r := H
 have A2 := Aside0.mk A20
 clear A20
 by_cases c3 : t145 = 0
 ·rw [if_pos c3] at H
  have c3b0 : (t145 == 0) = true := beq_iff_eq.mpr c3
  have c3b1 : (t145 != 0) = false := bne_eq_false_iff_eq.mpr c3
  clear c3
  by_cases c4 : (t142.length : Int) = 2
  ·rw [if_pos c4] at H
   have c4b0 : ((t142.length : Int) == 2) = true := beq_iff_eq.mpr c4
   have c4b1 : ((t142.length : Int) != 2) = false := bne_eq_false_iff_eq.mpr c4
   clear c4
   by_cases c5 : 0 < (t142.length : Int)
   ·rw [if_pos c5] at H
    have c5b0 : decide (0 < (t142.length : Int)) = true := decide_eq_true c5
    have c5b1 : decide (0 < t142.length) = true := decide_eq_true (by omega)
    clear c5
    by_cases c6 : (strOfNums (rd_L1 t142 0)).toList = ([98] : List UInt8)
    ·rw [if_pos c6] at H
     have c6b0 : ((strOfNums (rd_L1 t142 0)).toList == ([98] : List UInt8)) = true := beq_iff_eq.mpr c6
     have c6b1 : ((strOfNums (rd_L1 t142 0)).toList != ([98] : List UInt8)) = false := bne_eq_false_iff_eq.mpr c6
     clear c6
     by_cases c7 : 1 < (t142.length : Int)
     ·rw [if_pos c7] at H
      have c7b0 : decide (1 < (t142.length : Int)) = true := decide_eq_true c7
      have c7b1 : decide (1 < t142.length) = true := decide_eq_true (by omega)
      clear c7
      by_cases c8 : (strOfNums (rd_L1 t142 1)).toList = ([99] : List UInt8)
      ·rw [if_pos c8] at H
       have c8b0 : ((strOfNums (rd_L1 t142 1)).toList == ([99] : List UInt8)) = true := beq_iff_eq.mpr c8
       have c8b1 : ((strOfNums (rd_L1 t142 1)).toList != ([99] : List UInt8)) = false := bne_eq_false_iff_eq.mpr c8
       clear c8
       by_cases c9 : t149 = 0
       ·rw [if_pos c9] at H
        have c9b0 : (t149 == 0) = true := beq_iff_eq.mpr c9
        have c9b1 : (t149 != 0) = false := bne_eq_false_iff_eq.mpr c9
        clear c9
        by_cases c10 : (t146.length : Int) = 2
        ·rw [if_pos c10] at H
         have c10b0 : ((t146.length : Int) == 2) = true := beq_iff_eq.mpr c10
         have c10b1 : ((t146.length : Int) != 2) = false := bne_eq_false_iff_eq.mpr c10
         clear c10
         by_cases c11 : 0 < (t146.length : Int)
         ·rw [if_pos c11] at H
          have c11b0 : decide (0 < (t146.length : Int)) = true := decide_eq_true c11
          have c11b1 : decide (0 < t146.length) = true := decide_eq_true (by omega)
          clear c11
          by_cases c12 : ((rd_T28 t146 0).f0) = 0
          ·rw [if_pos c12] at H
           have c12b0 : (((rd_T28 t146 0).f0) == 0) = true := beq_iff_eq.mpr c12
           have c12b1 : (((rd_T28 t146 0).f0) != 0) = false := bne_eq_false_iff_eq.mpr c12
           clear c12
           by_cases c13 : (((rd_T28 t146 0).f2).length : Int) = 1
           ·rw [if_pos c13] at H
            have c13b0 : ((((rd_T28 t146 0).f2).length : Int) == 1) = true := beq_iff_eq.mpr c13
            have c13b1 : ((((rd_T28 t146 0).f2).length : Int) != 1) = false := bne_eq_false_iff_eq.mpr c13
            clear c13
            by_cases c14 : 1 < (t146.length : Int)
            ·rw [if_pos c14] at H
             have c14b0 : decide (1 < (t146.length : Int)) = true := decide_eq_true c14
             have c14b1 : decide (1 < t146.length) = true := decide_eq_true (by omega)
             clear c14
             by_cases c15 : ((rd_T28 t146 1).f0) = 1
             ·rw [if_pos c15] at H
              have c15b0 : (((rd_T28 t146 1).f0) == 1) = true := beq_iff_eq.mpr c15
              have c15b1 : (((rd_T28 t146 1).f0) != 1) = false := bne_eq_false_iff_eq.mpr c15
              clear c15
              obtain rfl := Option.some.inj H
              go_enter Try.func11, Try.ntmps11
              try dsimp only [List.append]
              go_wp2_with (first | ((with_reducible refine gate_dst (N := 8) rfl ?_); (try (refine gate_guard (by rfl) ?_; dsimp only)); refine Kd.V_lit (Kd.int .u8) _ 5 ?hg (N := 8) ?hd (xs := ([97] : List Int)) (inner := [.int .u8 97]) (ok := fun _ => True) (okp := fun _ => True) ?hr ?hp (fun _ hk => hk) trivial (Below.refl _ _) (Nat.le_refl _) (by simp) rfl (by first | kernel_rfl | rfl) (by first | kernel_rfl | rfl) rfl (of_decide_eq_true (by first | kernel_rfl | rfl)) Try.underlying22 Try.underlying5 ?_; (case hd => rfl); (case hg => rfl); (case hr => first | (go_simp; done) | (go_simp; rfl)); (case hp => exact (Reps.one (show Kd.M (Kd.int .u8) _ _ _ 97 [.int .u8 97] from rfl) (Reps.none _ _))); intro v119 w16 ho17 hb hg_ hnew_; (try clear hg_); (try clear hnew_); (first | rw [← Ny118.out] at ho17 | (simp only [Int.reduceToNat] at ho17; rw [← Ny118.out] at ho17)); have n0_ := Aside0.mk (Kd.V_lower (Kd.V_mono (ok' := fun k_ => True) (by first | exact ho17 | exact Kd.S_V ho17 | exact Kd.R_V ho17 | exact Kd.N_V ho17) (fun k_ hk_ => trivial)) (below_size (by repeat (first | (with_reducible first | exact HB.out | apply below_alloc | apply pw_below_drewN | apply below_drew1) | exact HB.out)))); have n1_ := Aside0.mk (below_step (by repeat (first | (with_reducible first | exact HB.out | apply below_alloc | apply pw_below_drewN | apply below_drew1) | exact HB.out)) hb); clear HB; have HO120 := n0_; have HB := n1_; clear n0_ n1_; (try clear hb); (try clear ho17); obtain ⟨Ao18, co18, eo18⟩ := Kd.V_slice HO120.out; subst eo18) | ((with_reducible refine gate_dst (N := 10) rfl ?_); (try (refine gate_guard (by rfl) ?_; dsimp only)); refine Kd.N_lit (Kd.slice 5 (Kd.int .u8)) _ 22 ?hg (N' := 10) ?hd (xs := ([y118] : List (List Int))) (inner := [.slice Ao18 y118.length co18]) (ok := (fun _ => True)) (okp := (fun _ => True)) ?hr ?hp (fun _ hk => hk) ((show ∀ k_, w16.heap.size ≤ k_ → (fun _ => True) k_ from fun k_ hk => trivial) _ (Nat.le_refl _)) (Below.refl _ _) (Nat.le_refl _) (by simp) ?_; (case hd => rfl); (case hg => rfl); (case hr => first | (go_simp; done) | (go_simp; rfl)); (case hp => exact (Reps.one (show Kd.FK (Kd.slice 5 (Kd.int .u8)) _ _ y118 [.slice Ao18 y118.length co18] from (Kd.FK_slice_mk (Kd.V_reads' (Kd.V_mono (ok' := (fun _ => True)) (HO120.out) (fun k_ hk => trivial))).2.1 (Kd.V_F (Kd.V_mono (ok' := (fun _ => True)) (HO120.out) (fun k_ hk => trivial))))) (Reps.none _ _))); intro v122 w19 ho20 hb hg_ hnew_; (try clear hg_); (try clear hnew_); (first | rw [← Ny121.out] at ho20 | (simp only [Int.reduceToNat] at ho20; rw [← Ny121.out] at ho20)); have n0_ := Aside0.mk (Kd.V_elder' (by (with_reducible repeat (first | apply Kd.V_alloc | apply Kd.V_drewN | apply Kd.V_drew)); exact HO120.out) (Kd.N_base ho20) hb); have n1_ := Aside0.mk (Kd.N_lower ho20 (below_size (by repeat (first | (with_reducible first | exact HB.out | apply below_alloc | apply pw_below_drewN | apply below_drew1) | exact HB.out)))); have n2_ := Aside0.mk (below_step (by repeat (first | (with_reducible first | exact HB.out | apply below_alloc | apply pw_below_drewN | apply below_drew1) | exact HB.out)) hb); clear HO120; clear HB; have HO120 := n0_; have HO123 := n1_; have HB := n2_; clear n0_ n1_ n2_; (try clear hb); (try clear ho20)) | ((with_reducible refine gate_dst (N := 11) rfl ?_); (try (refine gate_guard (by rfl) ?_; dsimp only)); refine Kd.V_lit (Kd.int .u8) _ 5 ?hg (N := 11) ?hd (xs := ([99] : List Int)) (inner := [.int .u8 99]) (ok := fun _ => True) (okp := fun _ => True) ?hr ?hp (fun _ hk => hk) trivial (Below.refl _ _) (Nat.le_refl _) (by simp) rfl (by first | kernel_rfl | rfl) (by first | kernel_rfl | rfl) rfl (of_decide_eq_true (by first | kernel_rfl | rfl)) Try.underlying22 Try.underlying5 ?_; (case hd => rfl); (case hg => rfl); (case hr => first | (go_simp; done) | (go_simp; rfl)); (case hp => exact (Reps.one (show Kd.M (Kd.int .u8) _ _ _ 99 [.int .u8 99] from rfl) (Reps.none _ _))); intro v125 w21 ho22 hb hg_ hnew_; (try clear hg_); (try clear hnew_); (first | rw [← Ny124.out] at ho22 | (simp only [Int.reduceToNat] at ho22; rw [← Ny124.out] at ho22)); have n0_ := Aside0.mk (Kd.V_below (by (with_reducible repeat (first | apply Kd.V_alloc | apply Kd.V_drewN | apply Kd.V_drew)); exact HO120.out) hb); have n1_ := Aside0.mk (Kd.N_below (by (with_reducible repeat (first | apply Kd.N_alloc | apply Kd.N_drewN | apply Kd.N_drew)); exact HO123.out) hb); have n2_ := Aside0.mk (Kd.V_lower (Kd.V_mono (ok' := fun k_ => some k_ ≠ (v122 : Value).ownBlock) ho22 (fun k_ hk_ => (Kd.fresh' (Kd.N_lt (by (with_reducible repeat (first | apply Kd.N_alloc | apply Kd.N_drewN | apply Kd.N_drew)); exact HO123.out)) k_ hk_.2.1))) (below_size (by repeat (first | (with_reducible first | exact HB.out | apply below_alloc | apply pw_below_drewN | apply below_drew1) | exact HB.out)))); have n3_ := Aside0.mk (below_step (by repeat (first | (with_reducible first | exact HB.out | apply below_alloc | apply pw_below_drewN | apply below_drew1) | exact HB.out)) hb); clear HO120; clear HO123; clear HB; have HO120 := n0_; have HO123 := n1_; have HO126 := n2_; have HB := n3_; clear n0_ n1_ n2_ n3_; (try clear hb); (try clear ho22); obtain ⟨Ao23, co23, eo23⟩ := Kd.V_slice HO126.out; subst eo23) | ((with_reducible refine gate_dst (N := 13) rfl ?_); (try (refine gate_guard (by rfl) ?_; dsimp only)); refine Kd.N_lit (Kd.slice 5 (Kd.int .u8)) _ 22 ?hg (N' := 13) ?hd (xs := ([y124] : List (List Int))) (inner := [.slice Ao23 y124.length co23]) (ok := (fun k_ => some k_ ≠ (v122 : Value).ownBlock)) (okp := (fun k_ => some k_ ≠ (v122 : Value).ownBlock)) ?hr ?hp (fun _ hk => hk) ((show ∀ k_, w21.heap.size ≤ k_ → (fun k_ => some k_ ≠ (v122 : Value).ownBlock) k_ from fun k_ hk => Kd.fresh' (Kd.N_lt (by (with_reducible repeat (first | apply Kd.N_alloc | apply Kd.N_drewN | apply Kd.N_drew)); exact HO123.out)) k_ hk) _ (Nat.le_refl _)) (Below.refl _ _) (Nat.le_refl _) (by simp) ?_; (case hd => rfl); (case hg => rfl); (case hr => first | (go_simp; done) | (go_simp; rfl)); (case hp => exact (Reps.one (show Kd.FK (Kd.slice 5 (Kd.int .u8)) _ _ y124 [.slice Ao23 y124.length co23] from (Kd.FK_slice_mk (Kd.V_reads' (Kd.V_mono (ok' := (fun k_ => some k_ ≠ (v122 : Value).ownBlock)) (HO126.out) (fun k_ hk => hk))).2.1 (Kd.V_F (Kd.V_mono (ok' := (fun k_ => some k_ ≠ (v122 : Value).ownBlock)) (HO126.out) (fun k_ hk => hk))))) (Reps.none _ _))); intro v128 w24 ho25 hb hg_ hnew_; (try clear hg_); (try clear hnew_); (first | rw [← Ny127.out] at ho25 | (simp only [Int.reduceToNat] at ho25; rw [← Ny127.out] at ho25)); have n0_ := Aside0.mk (Kd.V_elder' (by (with_reducible repeat (first | apply Kd.V_alloc | apply Kd.V_drewN | apply Kd.V_drew)); exact HO120.out) (Kd.N_base ho25) hb); have n1_ := Aside0.mk (Kd.N_elder' (by (with_reducible repeat (first | apply Kd.N_alloc | apply Kd.N_drewN | apply Kd.N_drew)); exact HO123.out) (Kd.N_base ho25) hb); have n2_ := Aside0.mk (Kd.V_elder' (by (with_reducible repeat (first | apply Kd.V_alloc | apply Kd.V_drewN | apply Kd.V_drew)); exact HO126.out) (Kd.N_base ho25) hb); have n3_ := Aside0.mk (Kd.N_lower ho25 (below_size (by repeat (first | (with_reducible first | exact HB.out | apply below_alloc | apply pw_below_drewN | apply below_drew1) | exact HB.out)))); have n4_ := Aside0.mk (below_step (by repeat (first | (with_reducible first | exact HB.out | apply below_alloc | apply pw_below_drewN | apply below_drew1) | exact HB.out)) hb); clear HO120; clear HO123; clear HO126; clear HB; have HO120 := n0_; have HO123 := n1_; have HO126 := n2_; have HO129 := n3_; have HB := n4_; clear n0_ n1_ n2_ n3_ n4_; (try clear hb); (try clear ho25); obtain ⟨Ao26, co26, eo26⟩ := Kd.N_slice HO123.out; subst eo26; obtain ⟨Ao27, co27, eo27⟩ := Kd.N_slice HO129.out; subst eo27) | ((with_reducible refine gate_dst (N := 18) rfl ?_); (try (refine gate_guard (by rfl) ?_; dsimp only)); refine Kd.N_lit k28 _ 28 ?hg (N' := 18) ?hd (xs := ([(⟨0, y121, ([] : List (List Int))⟩ : S28), (⟨2, ([] : List (List Int)), y127⟩ : S28)] : List (S28))) (inner := [.int .i64 0, .slice Ao26 y121.length co26, .slice none 0 0, .int .i64 2, .slice none 0 0, .slice Ao27 y127.length co27]) (ok := (fun _ => True)) (okp := (fun _ => True)) ?hr ?hp (fun _ hk => hk) ((show ∀ k_, w24.heap.size ≤ k_ → (fun _ => True) k_ from fun k_ hk => trivial) _ (Nat.le_refl _)) (Below.refl _ _) (Nat.le_refl _) (by simp) ?_; (case hd => rfl); (case hg => rfl); (case hr => first | (go_simp; done) | (go_simp; rfl)); (case hp => exact (Reps.c3 (show Kd.FK k28 _ _ (⟨0, y121, ([] : List (List Int))⟩ : S28) [.int .i64 0, .slice Ao26 y121.length co26, .slice none 0 0] from (k28_mkF _ _ (⟨0, y121, ([] : List (List Int))⟩ : S28) (Kd.N_reads' (Kd.N_mono (ok' := (fun _ => True)) (HO123.out) (fun k_ hk => trivial))).2.1 (Kd.N_F (Kd.N_mono (ok' := (fun _ => True)) (HO123.out) (fun k_ hk => trivial))) (Nat.le_refl _) (Kd.F_nil _ _ _))) (Reps.c3 (show Kd.FK k28 _ _ (⟨2, ([] : List (List Int)), y127⟩ : S28) [.int .i64 2, .slice none 0 0, .slice Ao27 y127.length co27] from (k28_mkF _ _ (⟨2, ([] : List (List Int)), y127⟩ : S28) (Nat.le_refl _) (Kd.F_nil _ _ _) (Kd.N_reads' (Kd.N_mono (ok' := (fun _ => True)) (HO129.out) (fun k_ hk => trivial))).2.1 (Kd.N_F (Kd.N_mono (ok' := (fun _ => True)) (HO129.out) (fun k_ hk => trivial))))) (Reps.none _ _)))); intro v131 w28 ho29 hb hg_ hnew_; (try clear hg_); (try clear hnew_); (first | rw [← Ny130.out] at ho29 | (simp only [Int.reduceToNat] at ho29; rw [← Ny130.out] at ho29)); have n0_ := Aside0.mk (Kd.V_elder' (by (with_reducible repeat (first | apply Kd.V_alloc | apply Kd.V_drewN | apply Kd.V_drew)); exact HO120.out) (Kd.N_base ho29) hb); have n1_ := Aside0.mk (Kd.N_elder' (by (with_reducible repeat (first | apply Kd.N_alloc | apply Kd.N_drewN | apply Kd.N_drew)); exact HO123.out) (Kd.N_base ho29) hb); have n2_ := Aside0.mk (Kd.V_elder' (by (with_reducible repeat (first | apply Kd.V_alloc | apply Kd.V_drewN | apply Kd.V_drew)); exact HO126.out) (Kd.N_base ho29) hb); have n3_ := Aside0.mk (Kd.N_elder' (by (with_reducible repeat (first | apply Kd.N_alloc | apply Kd.N_drewN | apply Kd.N_drew)); exact HO129.out) (Kd.N_base ho29) hb); have n4_ := Aside0.mk (Kd.N_lower ho29 (below_size (by repeat (first | (with_reducible first | exact HB.out | apply below_alloc | apply pw_below_drewN | apply below_drew1) | exact HB.out)))); have n5_ := Aside0.mk (below_step (by repeat (first | (with_reducible first | exact HB.out | apply below_alloc | apply pw_below_drewN | apply below_drew1) | exact HB.out)) hb); clear HO120; clear HO123; clear HO126; clear HO129; clear HB; have HO120 := n0_; have HO123 := n1_; have HO126 := n2_; have HO129 := n3_; have HO132 := n4_; have HB := n5_; clear n0_ n1_ n2_ n3_ n4_ n5_; (try clear hb); (try clear ho29)) | ((with_reducible refine gate_dst (N := 21) rfl ?_); (try (refine gate_guard (by rfl) ?_; dsimp only)); refine Kd.V_lit (Kd.int .u8) _ 5 ?hg (N := 21) ?hd (xs := ([97] : List Int)) (inner := [.int .u8 97]) (ok := fun _ => True) (okp := fun _ => True) ?hr ?hp (fun _ hk => hk) trivial (Below.refl _ _) (Nat.le_refl _) (by simp) rfl (by first | kernel_rfl | rfl) (by first | kernel_rfl | rfl) rfl (of_decide_eq_true (by first | kernel_rfl | rfl)) Try.underlying22 Try.underlying5 ?_; (case hd => rfl); (case hg => rfl); (case hr => first | (go_simp; done) | (go_simp; rfl)); (case hp => exact (Reps.one (show Kd.M (Kd.int .u8) _ _ _ 97 [.int .u8 97] from rfl) (Reps.none _ _))); intro v134 w30 ho31 hb hg_ hnew_; (try clear hg_); (try clear hnew_); (first | rw [← Ny133.out] at ho31 | (simp only [Int.reduceToNat] at ho31; rw [← Ny133.out] at ho31)); have n0_ := Aside0.mk (Kd.V_below (by (with_reducible repeat (first | apply Kd.V_alloc | apply Kd.V_drewN | apply Kd.V_drew)); exact HO120.out) hb); have n1_ := Aside0.mk (Kd.N_below (by (with_reducible repeat (first | apply Kd.N_alloc | apply Kd.N_drewN | apply Kd.N_drew)); exact HO123.out) hb); have n2_ := Aside0.mk (Kd.V_below (by (with_reducible repeat (first | apply Kd.V_alloc | apply Kd.V_drewN | apply Kd.V_drew)); exact HO126.out) hb); have n3_ := Aside0.mk (Kd.N_below (by (with_reducible repeat (first | apply Kd.N_alloc | apply Kd.N_drewN | apply Kd.N_drew)); exact HO129.out) hb); have n4_ := Aside0.mk (Kd.N_below (by (with_reducible repeat (first | apply Kd.N_alloc | apply Kd.N_drewN | apply Kd.N_drew)); exact HO132.out) hb); have n5_ := Aside0.mk (Kd.V_lower (Kd.V_mono (ok' := fun k_ => some k_ ≠ (.slice Ao26 y121.length co26 : Value).ownBlock ∧ some k_ ≠ (.slice Ao27 y127.length co27 : Value).ownBlock ∧ some k_ ≠ (v131 : Value).ownBlock) ho31 (fun k_ hk_ => ⟨(Kd.fresh' (Kd.N_lt (by (with_reducible repeat (first | apply Kd.N_alloc | apply Kd.N_drewN | apply Kd.N_drew)); exact HO123.out)) k_ hk_.2.1), (Kd.fresh' (Kd.N_lt (by (with_reducible repeat (first | apply Kd.N_alloc | apply Kd.N_drewN | apply Kd.N_drew)); exact HO129.out)) k_ hk_.2.1), (Kd.fresh' (Kd.N_lt (by (with_reducible repeat (first | apply Kd.N_alloc | apply Kd.N_drewN | apply Kd.N_drew)); exact HO132.out)) k_ hk_.2.1)⟩)) (below_size (by repeat (first | (with_reducible first | exact HB.out | apply below_alloc | apply pw_below_drewN | apply below_drew1) | exact HB.out)))); have n6_ := Aside0.mk (below_step (by repeat (first | (with_reducible first | exact HB.out | apply below_alloc | apply pw_below_drewN | apply below_drew1) | exact HB.out)) hb); clear HO120; clear HO123; clear HO126; clear HO129; clear HO132; clear HB; have HO120 := n0_; have HO123 := n1_; have HO126 := n2_; have HO129 := n3_; have HO132 := n4_; have HO135 := n5_; have HB := n6_; clear n0_ n1_ n2_ n3_ n4_ n5_ n6_; (try clear hb); (try clear ho31)) | ((with_reducible refine gate_dst (N := 23) rfl ?_); (try (refine gate_guard (by rfl) ?_; dsimp only)); refine Kd.V_lit (Kd.int .u8) _ 5 ?hg (N := 23) ?hd (xs := ([98] : List Int)) (inner := [.int .u8 98]) (ok := fun _ => True) (okp := fun _ => True) ?hr ?hp (fun _ hk => hk) trivial (Below.refl _ _) (Nat.le_refl _) (by simp) rfl (by first | kernel_rfl | rfl) (by first | kernel_rfl | rfl) rfl (of_decide_eq_true (by first | kernel_rfl | rfl)) Try.underlying22 Try.underlying5 ?_; (case hd => rfl); (case hg => rfl); (case hr => first | (go_simp; done) | (go_simp; rfl)); (case hp => exact (Reps.one (show Kd.M (Kd.int .u8) _ _ _ 98 [.int .u8 98] from rfl) (Reps.none _ _))); intro v137 w32 ho33 hb hg_ hnew_; (try clear hg_); (try clear hnew_); (first | rw [← Ny136.out] at ho33 | (simp only [Int.reduceToNat] at ho33; rw [← Ny136.out] at ho33)); have n0_ := Aside0.mk (Kd.V_below (by (with_reducible repeat (first | apply Kd.V_alloc | apply Kd.V_drewN | apply Kd.V_drew)); exact HO120.out) hb); have n1_ := Aside0.mk (Kd.N_below (by (with_reducible repeat (first | apply Kd.N_alloc | apply Kd.N_drewN | apply Kd.N_drew)); exact HO123.out) hb); have n2_ := Aside0.mk (Kd.V_below (by (with_reducible repeat (first | apply Kd.V_alloc | apply Kd.V_drewN | apply Kd.V_drew)); exact HO126.out) hb); have n3_ := Aside0.mk (Kd.N_below (by (with_reducible repeat (first | apply Kd.N_alloc | apply Kd.N_drewN | apply Kd.N_drew)); exact HO129.out) hb); have n4_ := Aside0.mk (Kd.N_below (by (with_reducible repeat (first | apply Kd.N_alloc | apply Kd.N_drewN | apply Kd.N_drew)); exact HO132.out) hb); have n5_ := Aside0.mk (Kd.V_below (by (with_reducible repeat (first | apply Kd.V_alloc | apply Kd.V_drewN | apply Kd.V_drew)); exact HO135.out) hb); have n6_ := Aside0.mk (Kd.V_lower (Kd.V_mono (ok' := fun k_ => some k_ ≠ (.slice Ao26 y121.length co26 : Value).ownBlock ∧ some k_ ≠ (.slice Ao27 y127.length co27 : Value).ownBlock ∧ some k_ ≠ (v131 : Value).ownBlock) ho33 (fun k_ hk_ => ⟨(Kd.fresh' (Kd.N_lt (by (with_reducible repeat (first | apply Kd.N_alloc | apply Kd.N_drewN | apply Kd.N_drew)); exact HO123.out)) k_ hk_.2.1), (Kd.fresh' (Kd.N_lt (by (with_reducible repeat (first | apply Kd.N_alloc | apply Kd.N_drewN | apply Kd.N_drew)); exact HO129.out)) k_ hk_.2.1), (Kd.fresh' (Kd.N_lt (by (with_reducible repeat (first | apply Kd.N_alloc | apply Kd.N_drewN | apply Kd.N_drew)); exact HO132.out)) k_ hk_.2.1)⟩)) (below_size (by repeat (first | (with_reducible first | exact HB.out | apply below_alloc | apply pw_below_drewN | apply below_drew1) | exact HB.out)))); have n7_ := Aside0.mk (below_step (by repeat (first | (with_reducible first | exact HB.out | apply below_alloc | apply pw_below_drewN | apply below_drew1) | exact HB.out)) hb); clear HO120; clear HO123; clear HO126; clear HO129; clear HO132; clear HO135; clear HB; have HO120 := n0_; have HO123 := n1_; have HO126 := n2_; have HO129 := n3_; have HO132 := n4_; have HO135 := n5_; have HO138 := n6_; have HB := n7_; clear n0_ n1_ n2_ n3_ n4_ n5_ n6_ n7_; (try clear hb); (try clear ho33); obtain ⟨Ao34, co34, eo34⟩ := Kd.V_slice HO135.out; subst eo34; obtain ⟨Ao35, co35, eo35⟩ := Kd.V_slice HO138.out; subst eo35) | ((with_reducible refine gate_dst (N := 25) rfl ?_); (try (refine gate_guard (by rfl) ?_; dsimp only)); refine Kd.N_lit (Kd.slice 5 (Kd.int .u8)) _ 22 ?hg (N' := 25) ?hd (xs := ([y133, y136] : List (List Int))) (inner := [.slice Ao34 y133.length co34, .slice Ao35 y136.length co35]) (ok := (fun k_ => some k_ ≠ (.slice Ao26 y121.length co26 : Value).ownBlock ∧ some k_ ≠ (.slice Ao27 y127.length co27 : Value).ownBlock ∧ some k_ ≠ (v131 : Value).ownBlock)) (okp := (fun k_ => some k_ ≠ (.slice Ao26 y121.length co26 : Value).ownBlock ∧ some k_ ≠ (.slice Ao27 y127.length co27 : Value).ownBlock ∧ some k_ ≠ (v131 : Value).ownBlock)) ?hr ?hp (fun _ hk => hk) ((show ∀ k_, w32.heap.size ≤ k_ → (fun k_ => some k_ ≠ (.slice Ao26 y121.length co26 : Value).ownBlock ∧ some k_ ≠ (.slice Ao27 y127.length co27 : Value).ownBlock ∧ some k_ ≠ (v131 : Value).ownBlock) k_ from fun k_ hk => ⟨Kd.fresh' (Kd.N_lt (by (with_reducible repeat (first | apply Kd.N_alloc | apply Kd.N_drewN | apply Kd.N_drew)); exact HO123.out)) k_ hk, Kd.fresh' (Kd.N_lt (by (with_reducible repeat (first | apply Kd.N_alloc | apply Kd.N_drewN | apply Kd.N_drew)); exact HO129.out)) k_ hk, Kd.fresh' (Kd.N_lt (by (with_reducible repeat (first | apply Kd.N_alloc | apply Kd.N_drewN | apply Kd.N_drew)); exact HO132.out)) k_ hk⟩) _ (Nat.le_refl _)) (Below.refl _ _) (Nat.le_refl _) (by simp) ?_; (case hd => rfl); (case hg => rfl); (case hr => first | (go_simp; done) | (go_simp; rfl)); (case hp => exact (Reps.one (show Kd.FK (Kd.slice 5 (Kd.int .u8)) _ _ y133 [.slice Ao34 y133.length co34] from (Kd.FK_slice_mk (Kd.V_reads' (Kd.V_mono (ok' := (fun k_ => some k_ ≠ (.slice Ao26 y121.length co26 : Value).ownBlock ∧ some k_ ≠ (.slice Ao27 y127.length co27 : Value).ownBlock ∧ some k_ ≠ (v131 : Value).ownBlock)) (HO135.out) (fun k_ hk => ⟨hk.1, ⟨hk.2.1, hk.2.2⟩⟩))).2.1 (Kd.V_F (Kd.V_mono (ok' := (fun k_ => some k_ ≠ (.slice Ao26 y121.length co26 : Value).ownBlock ∧ some k_ ≠ (.slice Ao27 y127.length co27 : Value).ownBlock ∧ some k_ ≠ (v131 : Value).ownBlock)) (HO135.out) (fun k_ hk => ⟨hk.1, ⟨hk.2.1, hk.2.2⟩⟩))))) (Reps.one (show Kd.FK (Kd.slice 5 (Kd.int .u8)) _ _ y136 [.slice Ao35 y136.length co35] from (Kd.FK_slice_mk (Kd.V_reads' (Kd.V_mono (ok' := (fun k_ => some k_ ≠ (.slice Ao26 y121.length co26 : Value).ownBlock ∧ some k_ ≠ (.slice Ao27 y127.length co27 : Value).ownBlock ∧ some k_ ≠ (v131 : Value).ownBlock)) (HO138.out) (fun k_ hk => ⟨hk.1, ⟨hk.2.1, hk.2.2⟩⟩))).2.1 (Kd.V_F (Kd.V_mono (ok' := (fun k_ => some k_ ≠ (.slice Ao26 y121.length co26 : Value).ownBlock ∧ some k_ ≠ (.slice Ao27 y127.length co27 : Value).ownBlock ∧ some k_ ≠ (v131 : Value).ownBlock)) (HO138.out) (fun k_ hk => ⟨hk.1, ⟨hk.2.1, hk.2.2⟩⟩))))) (Reps.none _ _)))); intro v140 w36 ho37 hb hg_ hnew_; (try clear hg_); (try clear hnew_); (first | rw [← Ny139.out] at ho37 | (simp only [Int.reduceToNat] at ho37; rw [← Ny139.out] at ho37)); have n0_ := Aside0.mk (Kd.V_elder' (by (with_reducible repeat (first | apply Kd.V_alloc | apply Kd.V_drewN | apply Kd.V_drew)); exact HO120.out) (Kd.N_base ho37) hb); have n1_ := Aside0.mk (Kd.N_elder' (by (with_reducible repeat (first | apply Kd.N_alloc | apply Kd.N_drewN | apply Kd.N_drew)); exact HO123.out) (Kd.N_base ho37) hb); have n2_ := Aside0.mk (Kd.V_elder' (by (with_reducible repeat (first | apply Kd.V_alloc | apply Kd.V_drewN | apply Kd.V_drew)); exact HO126.out) (Kd.N_base ho37) hb); have n3_ := Aside0.mk (Kd.N_elder' (by (with_reducible repeat (first | apply Kd.N_alloc | apply Kd.N_drewN | apply Kd.N_drew)); exact HO129.out) (Kd.N_base ho37) hb); have n4_ := Aside0.mk (Kd.N_elder' (by (with_reducible repeat (first | apply Kd.N_alloc | apply Kd.N_drewN | apply Kd.N_drew)); exact HO132.out) (Kd.N_base ho37) hb); have n5_ := Aside0.mk (Kd.V_elder' (by (with_reducible repeat (first | apply Kd.V_alloc | apply Kd.V_drewN | apply Kd.V_drew)); exact HO135.out) (Kd.N_base ho37) hb); have n6_ := Aside0.mk (Kd.V_elder' (by (with_reducible repeat (first | apply Kd.V_alloc | apply Kd.V_drewN | apply Kd.V_drew)); exact HO138.out) (Kd.N_base ho37) hb); have n7_ := Aside0.mk (Kd.N_lower ho37 (below_size (by repeat (first | (with_reducible first | exact HB.out | apply below_alloc | apply pw_below_drewN | apply below_drew1) | exact HB.out)))); have n8_ := Aside0.mk (below_step (by repeat (first | (with_reducible first | exact HB.out | apply below_alloc | apply pw_below_drewN | apply below_drew1) | exact HB.out)) hb); clear HO120; clear HO123; clear HO126; clear HO129; clear HO132; clear HO135; clear HO138; clear HB; have HO120 := n0_; have HO123 := n1_; have HO126 := n2_; have HO129 := n3_; have HO132 := n4_; have HO135 := n5_; have HO138 := n6_; have HO141 := n7_; have HB := n8_; clear n0_ n1_ n2_ n3_ n4_ n5_ n6_ n7_ n8_; (try clear hb); (try clear ho37); obtain ⟨Ao38, co38, eo38⟩ := Kd.N_slice HO132.out; subst eo38; obtain ⟨Ao39, co39, eo39⟩ := Kd.N_slice HO141.out; subst eo39) | ((first | (with_reducible refine gate_callee (f := 9) rfl ?_); refine goesL_ (some 26) rfl rfl Try.func9 (by kernel_rfl) rfl #[.slice Ao38 y130.length co38, .slice Ao39 y139.length co39] rfl (by (try simp only [List.map_toArray, List.map_cons, List.map_nil]); first | done | rfl | (simp only [List.length_drop, List.length_take]; rfl)) ?_ | go_at_call 9); (with_reducible refine (patch_Apply.calls k _ _ y130 _ _ y139 t142 t145 _ ?side1 ?side2 ?side3 ?side4 A1.out).mono ?_); (case side1 => repeat (first | exact (Kd.N_reads' HO132.out).2.2 | (with_reducible refine Kd.C_alloc ?_ _) | (with_reducible refine Kd.C_drewN ?_ _) | (with_reducible refine Kd.C_drew ?_))); (case side2 => exact (Kd.N_reads' HO132.out).2.1); (case side3 => repeat (first | exact (Kd.N_reads' HO141.out).2.2 | (with_reducible refine Kd.C_alloc ?_ _) | (with_reducible refine Kd.C_drewN ?_ _) | (with_reducible refine Kd.C_drew ?_))); (case side4 => exact (Kd.N_reads' HO141.out).2.1); rintro e w40 ⟨v143, rfl, ho0, hb⟩; (try refine ⟨_, rfl, ?_⟩); have n0_ := Aside0.mk (Kd.V_elder' (by (with_reducible repeat (first | apply Kd.V_alloc | apply Kd.V_drewN | apply Kd.V_drew)); exact HO120.out) (Kd.N_base ho0) hb); have n1_ := Aside0.mk (Kd.N_elder' (by (with_reducible repeat (first | apply Kd.N_alloc | apply Kd.N_drewN | apply Kd.N_drew)); exact HO123.out) (Kd.N_base ho0) hb); have n2_ := Aside0.mk (Kd.V_elder' (by (with_reducible repeat (first | apply Kd.V_alloc | apply Kd.V_drewN | apply Kd.V_drew)); exact HO126.out) (Kd.N_base ho0) hb); have n3_ := Aside0.mk (Kd.N_elder' (by (with_reducible repeat (first | apply Kd.N_alloc | apply Kd.N_drewN | apply Kd.N_drew)); exact HO129.out) (Kd.N_base ho0) hb); have n4_ := Aside0.mk (Kd.N_elder' (by (with_reducible repeat (first | apply Kd.N_alloc | apply Kd.N_drewN | apply Kd.N_drew)); exact HO132.out) (Kd.N_base ho0) hb); have n5_ := Aside0.mk (Kd.V_elder' (by (with_reducible repeat (first | apply Kd.V_alloc | apply Kd.V_drewN | apply Kd.V_drew)); exact HO135.out) (Kd.N_base ho0) hb); have n6_ := Aside0.mk (Kd.V_elder' (by (with_reducible repeat (first | apply Kd.V_alloc | apply Kd.V_drewN | apply Kd.V_drew)); exact HO138.out) (Kd.N_base ho0) hb); have n7_ := Aside0.mk (Kd.N_elder' (by (with_reducible repeat (first | apply Kd.N_alloc | apply Kd.N_drewN | apply Kd.N_drew)); exact HO141.out) (Kd.N_base ho0) hb); have n8_ := Aside0.mk (Kd.N_lower (Kd.N_mono (ok' := fun k_ => some k_ ≠ (.slice Ao26 y121.length co26 : Value).ownBlock ∧ some k_ ≠ (.slice Ao27 y127.length co27 : Value).ownBlock ∧ some k_ ≠ (.slice Ao38 y130.length co38 : Value).ownBlock ∧ some k_ ≠ (.slice Ao39 y139.length co39 : Value).ownBlock) ho0 (fun k_ hk_ => ⟨(Kd.fresh' (Kd.N_lt (by (with_reducible repeat (first | apply Kd.N_alloc | apply Kd.N_drewN | apply Kd.N_drew)); exact HO123.out)) k_ hk_), (Kd.fresh' (Kd.N_lt (by (with_reducible repeat (first | apply Kd.N_alloc | apply Kd.N_drewN | apply Kd.N_drew)); exact HO129.out)) k_ hk_), (Kd.fresh' (Kd.N_lt (by (with_reducible repeat (first | apply Kd.N_alloc | apply Kd.N_drewN | apply Kd.N_drew)); exact HO132.out)) k_ hk_), (Kd.fresh' (Kd.N_lt (by (with_reducible repeat (first | apply Kd.N_alloc | apply Kd.N_drewN | apply Kd.N_drew)); exact HO141.out)) k_ hk_)⟩)) (below_size (by repeat (first | (with_reducible first | exact HB.out | apply below_alloc | apply pw_below_drewN | apply below_drew1) | exact HB.out)))); have n9_ := Aside0.mk (below_step (by repeat (first | (with_reducible first | exact HB.out | apply below_alloc | apply pw_below_drewN | apply below_drew1) | exact HB.out)) hb); clear HO120; clear HO123; clear HO126; clear HO129; clear HO132; clear HO135; clear HO138; clear HO141; clear HB; have HO120 := n0_; have HO123 := n1_; have HO126 := n2_; have HO129 := n3_; have HO132 := n4_; have HO135 := n5_; have HO138 := n6_; have HO141 := n7_; have HO144 := n8_; have HB := n9_; clear n0_ n1_ n2_ n3_ n4_ n5_ n6_ n7_ n8_ n9_; (try clear hb); (try clear hb2); (try clear hk); (try clear hi); (try clear ho0)) | ((first | (with_reducible refine gate_callee (f := 10) rfl ?_); refine goesL_ (some 31) rfl rfl Try.func10 (by kernel_rfl) rfl #[.slice Ao38 y130.length co38] rfl (by (try simp only [List.map_toArray, List.map_cons, List.map_nil]); first | done | rfl | (simp only [List.length_drop, List.length_take]; rfl)) ?_ | go_at_call 10); (with_reducible refine (patch_Invert.calls k _ _ y130 t146 t149 _ ?side1 ?side2 A2.out).mono ?_); (case side1 => repeat (first | exact (Kd.N_reads' HO132.out).2.2 | (with_reducible refine Kd.C_alloc ?_ _) | (with_reducible refine Kd.C_drewN ?_ _) | (with_reducible refine Kd.C_drew ?_))); (case side2 => exact (Kd.N_reads' HO132.out).2.1); rintro e w41 ⟨v147, rfl, ho0, hb⟩; (try refine ⟨_, rfl, ?_⟩); have n0_ := Aside0.mk (Kd.V_elder' (by (with_reducible repeat (first | apply Kd.V_alloc | apply Kd.V_drewN | apply Kd.V_drew)); exact HO120.out) (Kd.N_base ho0) hb); have n1_ := Aside0.mk (Kd.N_elder' (by (with_reducible repeat (first | apply Kd.N_alloc | apply Kd.N_drewN | apply Kd.N_drew)); exact HO123.out) (Kd.N_base ho0) hb); have n2_ := Aside0.mk (Kd.V_elder' (by (with_reducible repeat (first | apply Kd.V_alloc | apply Kd.V_drewN | apply Kd.V_drew)); exact HO126.out) (Kd.N_base ho0) hb); have n3_ := Aside0.mk (Kd.N_elder' (by (with_reducible repeat (first | apply Kd.N_alloc | apply Kd.N_drewN | apply Kd.N_drew)); exact HO129.out) (Kd.N_base ho0) hb); have n4_ := Aside0.mk (Kd.N_elder' (by (with_reducible repeat (first | apply Kd.N_alloc | apply Kd.N_drewN | apply Kd.N_drew)); exact HO132.out) (Kd.N_base ho0) hb); have n5_ := Aside0.mk (Kd.V_elder' (by (with_reducible repeat (first | apply Kd.V_alloc | apply Kd.V_drewN | apply Kd.V_drew)); exact HO135.out) (Kd.N_base ho0) hb); have n6_ := Aside0.mk (Kd.V_elder' (by (with_reducible repeat (first | apply Kd.V_alloc | apply Kd.V_drewN | apply Kd.V_drew)); exact HO138.out) (Kd.N_base ho0) hb); have n7_ := Aside0.mk (Kd.N_elder' (by (with_reducible repeat (first | apply Kd.N_alloc | apply Kd.N_drewN | apply Kd.N_drew)); exact HO141.out) (Kd.N_base ho0) hb); have n8_ := Aside0.mk (Kd.N_elder' (by (with_reducible repeat (first | apply Kd.N_alloc | apply Kd.N_drewN | apply Kd.N_drew)); exact HO144.out) (Kd.N_base ho0) hb); have n9_ := Aside0.mk (Kd.N_lower (Kd.N_mono (ok' := fun k_ => some k_ ≠ (.slice Ao26 y121.length co26 : Value).ownBlock ∧ some k_ ≠ (.slice Ao27 y127.length co27 : Value).ownBlock ∧ some k_ ≠ (.slice Ao38 y130.length co38 : Value).ownBlock ∧ some k_ ≠ (.slice Ao39 y139.length co39 : Value).ownBlock ∧ some k_ ≠ (v143 : Value).ownBlock) ho0 (fun k_ hk_ => ⟨(Kd.fresh' (Kd.N_lt (by (with_reducible repeat (first | apply Kd.N_alloc | apply Kd.N_drewN | apply Kd.N_drew)); exact HO123.out)) k_ hk_), (Kd.fresh' (Kd.N_lt (by (with_reducible repeat (first | apply Kd.N_alloc | apply Kd.N_drewN | apply Kd.N_drew)); exact HO129.out)) k_ hk_), (Kd.fresh' (Kd.N_lt (by (with_reducible repeat (first | apply Kd.N_alloc | apply Kd.N_drewN | apply Kd.N_drew)); exact HO132.out)) k_ hk_), (Kd.fresh' (Kd.N_lt (by (with_reducible repeat (first | apply Kd.N_alloc | apply Kd.N_drewN | apply Kd.N_drew)); exact HO141.out)) k_ hk_), (Kd.fresh' (Kd.N_lt (by (with_reducible repeat (first | apply Kd.N_alloc | apply Kd.N_drewN | apply Kd.N_drew)); exact HO144.out)) k_ hk_)⟩)) (below_size (by repeat (first | (with_reducible first | exact HB.out | apply below_alloc | apply pw_below_drewN | apply below_drew1) | exact HB.out)))); have n10_ := Aside0.mk (below_step (by repeat (first | (with_reducible first | exact HB.out | apply below_alloc | apply pw_below_drewN | apply below_drew1) | exact HB.out)) hb); clear HO120; clear HO123; clear HO126; clear HO129; clear HO132; clear HO135; clear HO138; clear HO141; clear HO144; clear HB; have HO120 := n0_; have HO123 := n1_; have HO126 := n2_; have HO129 := n3_; have HO132 := n4_; have HO135 := n5_; have HO138 := n6_; have HO141 := n7_; have HO144 := n8_; have HO148 := n9_; have HB := n10_; clear n0_ n1_ n2_ n3_ n4_ n5_ n6_ n7_ n8_ n9_ n10_; (try clear hb); (try clear hb2); (try clear hk); (try clear hi); (try clear ho0); obtain ⟨Ao42, co42, eo42⟩ := Kd.N_slice HO144.out; subst eo42; have p150 : 0 ≤ (0 : Int) := (by omega); have q150 : 0 < (t142.length : Int) := of_decide_eq_true (by first | (with_reducible assumption) | assumption); obtain ⟨ad150, A150_0, c150_0, e150, hx150_0, hl150_0, hi150_0⟩ := at_L1 (Kd.N_reads' HO144.out).2.2 0 p150 q150; cases e150; obtain ⟨ce150, hce150, hMe150, hcc150⟩ := Kd.N_get HO144.out [] 0 p150 (by first | exact q150 | exact of_decide_eq_true (by first | (with_reducible assumption) | assumption) | (have e_ := (Kd.N_reads' HO144.out).1; omega)); obtain ⟨ua150_0, uc150_0, rfl, ul150_0, ge150_0⟩ := Kd.FK_slice_open hMe150; have hv150_0 := hcc150 0 _ rfl; rw [Nat.add_zero, show ((Kd.slice 5 (Kd.int .u8))).sz = 1 from rfl, Nat.mul_one] at hv150_0; replace hv150_0 := Option.some.inj (hv150_0.symm.trans hx150_0); injection hv150_0 with hva_ hvn_ hvc_; rw [hva_] at ge150_0; rw [hvc_] at ul150_0; have HL150_0 := Aside0.mk (show Kd.V (Kd.int .u8) 5 _ w.heap.size _ _ (rd_L1 t142 0) from Kd.V_mk ul150_0 ge150_0); clear hva_ hvn_ hvc_ ge150_0 ul150_0; (try clear hcc150); (try clear hce150); have qi150 : (0 < t142.length) = True := eq_true (by omega); (try rw [show ((0 : Int)).toNat = 0 from rfl] at hx150_0); (try rw [Addr.add_zero'] at hx150_0); have HR150_0 := Aside0.mk hi150_0; have HC150_0 := Aside0.mk hl150_0; (try clear hi150_0); (try clear hl150_0); replace p150 := eq_true p150; replace q150 := eq_true q150; have hcv43 := Kd.C_string (P := Try.prog) (A := A150_0) (c := c150_0) Try.underlying22 Try.underlying5 Try.underlying9 (by repeat (first | (with_reducible exact HR150_0.out) | (with_reducible refine Kd.C_alloc ?_ _) | (with_reducible refine Kd.C_drewN ?_ _) | (with_reducible refine Kd.C_drew ?_) | exact HR150_0.out)); have hcvd44 := fun nd_ => Kd.C_string (P := Try.prog) (A := A150_0) (c := c150_0) Try.underlying22 Try.underlying5 Try.underlying9 (Kd.C_drewN (by repeat (first | (with_reducible exact HR150_0.out) | (with_reducible refine Kd.C_alloc ?_ _) | (with_reducible refine Kd.C_drewN ?_ _) | (with_reducible refine Kd.C_drew ?_) | exact HR150_0.out)) nd_); have p151 : 0 ≤ (1 : Int) := (by omega); have q151 : 1 < (t142.length : Int) := of_decide_eq_true (by first | (with_reducible assumption) | assumption); obtain ⟨ad151, A151_0, c151_0, e151, hx151_0, hl151_0, hi151_0⟩ := at_L1 (Kd.N_reads' HO144.out).2.2 1 p151 q151; obtain rfl : ad150 = ad151 := (by injection e151); obtain ⟨ce151, hce151, hMe151, hcc151⟩ := Kd.N_get HO144.out [] 1 p151 (by first | exact q151 | exact of_decide_eq_true (by first | (with_reducible assumption) | assumption) | (have e_ := (Kd.N_reads' HO144.out).1; omega)); obtain ⟨ua151_0, uc151_0, rfl, ul151_0, ge151_0⟩ := Kd.FK_slice_open hMe151; have hv151_0 := hcc151 0 _ rfl; rw [Nat.add_zero, show ((Kd.slice 5 (Kd.int .u8))).sz = 1 from rfl, Nat.mul_one] at hv151_0; replace hv151_0 := Option.some.inj (hv151_0.symm.trans hx151_0); injection hv151_0 with hva_ hvn_ hvc_; rw [hva_] at ge151_0; rw [hvc_] at ul151_0; have HL151_0 := Aside0.mk (show Kd.V (Kd.int .u8) 5 _ w.heap.size _ _ (rd_L1 t142 1) from Kd.V_mk ul151_0 ge151_0); clear hva_ hvn_ hvc_ ge151_0 ul151_0; (try clear hcc151); (try clear hce151); (try simp only [show (1 : Int).toNat = 1 from rfl, Nat.reduceMul, Nat.reduceEqDiff, Go.Addr.add, ↓reduceIte] at hx151_0); have qi151 : (1 < t142.length) = True := eq_true (by omega); (try rw [show ((1 : Int)).toNat = 1 from rfl] at hx151_0); have HR151_0 := Aside0.mk hi151_0; have HC151_0 := Aside0.mk hl151_0; (try clear hi151_0); (try clear hl151_0); replace p151 := eq_true p151; replace q151 := eq_true q151; have hcv45 := Kd.C_string (P := Try.prog) (A := A151_0) (c := c151_0) Try.underlying22 Try.underlying5 Try.underlying9 (by repeat (first | (with_reducible exact HR151_0.out) | (with_reducible refine Kd.C_alloc ?_ _) | (with_reducible refine Kd.C_drewN ?_ _) | (with_reducible refine Kd.C_drew ?_) | exact HR151_0.out)); have hcvd46 := fun nd_ => Kd.C_string (P := Try.prog) (A := A151_0) (c := c151_0) Try.underlying22 Try.underlying5 Try.underlying9 (Kd.C_drewN (by repeat (first | (with_reducible exact HR151_0.out) | (with_reducible refine Kd.C_alloc ?_ _) | (with_reducible refine Kd.C_drewN ?_ _) | (with_reducible refine Kd.C_drew ?_) | exact HR151_0.out)) nd_); obtain ⟨Ao47, co47, eo47⟩ := Kd.N_slice HO148.out; subst eo47; have p152 : 0 ≤ (0 : Int) := (by omega); have q152 : 0 < (t146.length : Int) := of_decide_eq_true (by first | (with_reducible assumption) | assumption); obtain ⟨ad152, A152_1, c152_1, A152_2, c152_2, e152, hx152_0, hx152_1, hx152_2, hl152_1, hi152_1, hl152_2, hi152_2⟩ := at_T28 (Kd.N_reads' HO148.out).2.2 0 p152 q152; cases e152; obtain ⟨ce152, hce152, hMe152, hcc152⟩ := Kd.N_get HO148.out z28 0 p152 (by first | exact q152 | exact of_decide_eq_true (by first | (with_reducible assumption) | assumption) | (have e_ := (Kd.N_reads' HO148.out).1; omega)); obtain ⟨ua152_1, uc152_1, ua152_2, uc152_2, rfl, ul152_1, ge152_1, ul152_2, ge152_2⟩ := k28_openF hMe152; have hv152_1 := hcc152 1 _ rfl; rw [add_field _ _ 1 (by omega)] at hv152_1; replace hv152_1 := Option.some.inj (hv152_1.symm.trans hx152_1); injection hv152_1 with hva_ hvn_ hvc_; rw [hva_] at ge152_1; rw [hvc_] at ul152_1; have HL152_1 := Aside0.mk (show Kd.V (Kd.slice 5 (Kd.int .u8)) 22 _ w.heap.size _ _ ((rd_T28 t146 0).f1) from Kd.V_mk ul152_1 ge152_1); clear hva_ hvn_ hvc_ ge152_1 ul152_1; have hv152_2 := hcc152 2 _ rfl; rw [add_field _ _ 2 (by omega)] at hv152_2; replace hv152_2 := Option.some.inj (hv152_2.symm.trans hx152_2); injection hv152_2 with hva_ hvn_ hvc_; rw [hva_] at ge152_2; rw [hvc_] at ul152_2; have HL152_2 := Aside0.mk (show Kd.V (Kd.slice 5 (Kd.int .u8)) 22 _ w.heap.size _ _ ((rd_T28 t146 0).f2) from Kd.V_mk ul152_2 ge152_2); clear hva_ hvn_ hvc_ ge152_2 ul152_2; (try clear hcc152); (try clear hce152); have qi152 : (0 < t146.length) = True := eq_true (by omega); (try rw [show ((0 : Int)).toNat = 0 from rfl] at hx152_0); (try rw [show 0 * 3 = 0 from rfl] at hx152_0); (try rw [Addr.add_zero'] at hx152_0); (try rw [show ((0 : Int)).toNat = 0 from rfl] at hx152_1); (try rw [show 0 * 3 = 0 from rfl] at hx152_1); (try rw [Addr.add_zero'] at hx152_1); (try rw [show ((0 : Int)).toNat = 0 from rfl] at hx152_2); (try rw [show 0 * 3 = 0 from rfl] at hx152_2); (try rw [Addr.add_zero'] at hx152_2); have HR152_1 := Aside0.mk hi152_1; have HC152_1 := Aside0.mk hl152_1; (try clear hi152_1); (try clear hl152_1); have HR152_2 := Aside0.mk hi152_2; have HC152_2 := Aside0.mk hl152_2; (try clear hi152_2); (try clear hl152_2); replace p152 := eq_true p152; replace q152 := eq_true q152; have p153 : 0 ≤ (0 : Int) := (by omega); have q153 : 0 < (t146.length : Int) := of_decide_eq_true (by first | (with_reducible assumption) | assumption); obtain ⟨ad153, A153_1, c153_1, A153_2, c153_2, e153, hx153_0, hx153_1, hx153_2, hl153_1, hi153_1, hl153_2, hi153_2⟩ := at_T28 (Kd.N_reads' HO148.out).2.2 0 p153 q153; obtain rfl : ad152 = ad153 := (by injection e153); obtain ⟨ce153, hce153, hMe153, hcc153⟩ := Kd.N_get HO148.out z28 0 p153 (by first | exact q153 | exact of_decide_eq_true (by first | (with_reducible assumption) | assumption) | (have e_ := (Kd.N_reads' HO148.out).1; omega)); obtain ⟨ua153_1, uc153_1, ua153_2, uc153_2, rfl, ul153_1, ge153_1, ul153_2, ge153_2⟩ := k28_openF hMe153; have hv153_1 := hcc153 1 _ rfl; rw [add_field _ _ 1 (by omega)] at hv153_1; replace hv153_1 := Option.some.inj (hv153_1.symm.trans hx153_1); injection hv153_1 with hva_ hvn_ hvc_; rw [hva_] at ge153_1; rw [hvc_] at ul153_1; have HL153_1 := Aside0.mk (show Kd.V (Kd.slice 5 (Kd.int .u8)) 22 _ w.heap.size _ _ ((rd_T28 t146 0).f1) from Kd.V_mk ul153_1 ge153_1); clear hva_ hvn_ hvc_ ge153_1 ul153_1; have hv153_2 := hcc153 2 _ rfl; rw [add_field _ _ 2 (by omega)] at hv153_2; replace hv153_2 := Option.some.inj (hv153_2.symm.trans hx153_2); injection hv153_2 with hva_ hvn_ hvc_; rw [hva_] at ge153_2; rw [hvc_] at ul153_2; have HL153_2 := Aside0.mk (show Kd.V (Kd.slice 5 (Kd.int .u8)) 22 _ w.heap.size _ _ ((rd_T28 t146 0).f2) from Kd.V_mk ul153_2 ge153_2); clear hva_ hvn_ hvc_ ge153_2 ul153_2; (try clear hcc153); (try clear hce153); have qi153 : (0 < t146.length) = True := eq_true (by omega); (try rw [show ((0 : Int)).toNat = 0 from rfl] at hx153_0); (try rw [show 0 * 3 = 0 from rfl] at hx153_0); (try rw [Addr.add_zero'] at hx153_0); (try rw [show ((0 : Int)).toNat = 0 from rfl] at hx153_1); (try rw [show 0 * 3 = 0 from rfl] at hx153_1); (try rw [Addr.add_zero'] at hx153_1); (try rw [show ((0 : Int)).toNat = 0 from rfl] at hx153_2); (try rw [show 0 * 3 = 0 from rfl] at hx153_2); (try rw [Addr.add_zero'] at hx153_2); have HR153_1 := Aside0.mk hi153_1; have HC153_1 := Aside0.mk hl153_1; (try clear hi153_1); (try clear hl153_1); have HR153_2 := Aside0.mk hi153_2; have HC153_2 := Aside0.mk hl153_2; (try clear hi153_2); (try clear hl153_2); replace p153 := eq_true p153; replace q153 := eq_true q153; have ea_ := Option.some.inj (hx152_1.symm.trans hx153_1); injection ea_ with ea_ en_ ec_; subst ea_; subst ec_; clear en_; have ea_ := Option.some.inj (hx152_2.symm.trans hx153_2); injection ea_ with ea_ en_ ec_; subst ea_; subst ec_; clear en_; have p154 : 0 ≤ (1 : Int) := (by omega); have q154 : 1 < (t146.length : Int) := of_decide_eq_true (by first | (with_reducible assumption) | assumption); obtain ⟨ad154, A154_1, c154_1, A154_2, c154_2, e154, hx154_0, hx154_1, hx154_2, hl154_1, hi154_1, hl154_2, hi154_2⟩ := at_T28 (Kd.N_reads' HO148.out).2.2 1 p154 q154; obtain rfl : ad152 = ad154 := (by injection e154); obtain ⟨ce154, hce154, hMe154, hcc154⟩ := Kd.N_get HO148.out z28 1 p154 (by first | exact q154 | exact of_decide_eq_true (by first | (with_reducible assumption) | assumption) | (have e_ := (Kd.N_reads' HO148.out).1; omega)); obtain ⟨ua154_1, uc154_1, ua154_2, uc154_2, rfl, ul154_1, ge154_1, ul154_2, ge154_2⟩ := k28_openF hMe154; have hv154_1 := hcc154 1 _ rfl; rw [add_field _ _ 1 (by omega)] at hv154_1; replace hv154_1 := Option.some.inj (hv154_1.symm.trans hx154_1); injection hv154_1 with hva_ hvn_ hvc_; rw [hva_] at ge154_1; rw [hvc_] at ul154_1; have HL154_1 := Aside0.mk (show Kd.V (Kd.slice 5 (Kd.int .u8)) 22 _ w.heap.size _ _ ((rd_T28 t146 1).f1) from Kd.V_mk ul154_1 ge154_1); clear hva_ hvn_ hvc_ ge154_1 ul154_1; have hv154_2 := hcc154 2 _ rfl; rw [add_field _ _ 2 (by omega)] at hv154_2; replace hv154_2 := Option.some.inj (hv154_2.symm.trans hx154_2); injection hv154_2 with hva_ hvn_ hvc_; rw [hva_] at ge154_2; rw [hvc_] at ul154_2; have HL154_2 := Aside0.mk (show Kd.V (Kd.slice 5 (Kd.int .u8)) 22 _ w.heap.size _ _ ((rd_T28 t146 1).f2) from Kd.V_mk ul154_2 ge154_2); clear hva_ hvn_ hvc_ ge154_2 ul154_2; (try clear hcc154); (try clear hce154); (try simp only [show (1 : Int).toNat = 1 from rfl, Nat.reduceMul, Nat.reduceEqDiff, Go.Addr.add, ↓reduceIte] at hx154_0); (try simp only [show (1 : Int).toNat = 1 from rfl, Nat.reduceMul, Nat.reduceEqDiff, Go.Addr.add, ↓reduceIte] at hx154_1); (try simp only [show (1 : Int).toNat = 1 from rfl, Nat.reduceMul, Nat.reduceEqDiff, Go.Addr.add, ↓reduceIte] at hx154_2); have qi154 : (1 < t146.length) = True := eq_true (by omega); (try rw [show ((1 : Int)).toNat = 1 from rfl] at hx154_0); (try rw [show 1 * 3 = 3 from rfl] at hx154_0); (try rw [show ((1 : Int)).toNat = 1 from rfl] at hx154_1); (try rw [show 1 * 3 = 3 from rfl] at hx154_1); (try rw [show ((1 : Int)).toNat = 1 from rfl] at hx154_2); (try rw [show 1 * 3 = 3 from rfl] at hx154_2); have HR154_1 := Aside0.mk hi154_1; have HC154_1 := Aside0.mk hl154_1; (try clear hi154_1); (try clear hl154_1); have HR154_2 := Aside0.mk hi154_2; have HC154_2 := Aside0.mk hl154_2; (try clear hi154_2); (try clear hl154_2); replace p154 := eq_true p154; replace q154 := eq_true q154; have p155 : 0 ≤ (1 : Int) := (by omega); have q155 : 1 < (t146.length : Int) := of_decide_eq_true (by first | (with_reducible assumption) | assumption); obtain ⟨ad155, A155_1, c155_1, A155_2, c155_2, e155, hx155_0, hx155_1, hx155_2, hl155_1, hi155_1, hl155_2, hi155_2⟩ := at_T28 (Kd.N_reads' HO148.out).2.2 1 p155 q155; obtain rfl : ad152 = ad155 := (by injection e155); obtain ⟨ce155, hce155, hMe155, hcc155⟩ := Kd.N_get HO148.out z28 1 p155 (by first | exact q155 | exact of_decide_eq_true (by first | (with_reducible assumption) | assumption) | (have e_ := (Kd.N_reads' HO148.out).1; omega)); obtain ⟨ua155_1, uc155_1, ua155_2, uc155_2, rfl, ul155_1, ge155_1, ul155_2, ge155_2⟩ := k28_openF hMe155; have hv155_1 := hcc155 1 _ rfl; rw [add_field _ _ 1 (by omega)] at hv155_1; replace hv155_1 := Option.some.inj (hv155_1.symm.trans hx155_1); injection hv155_1 with hva_ hvn_ hvc_; rw [hva_] at ge155_1; rw [hvc_] at ul155_1; have HL155_1 := Aside0.mk (show Kd.V (Kd.slice 5 (Kd.int .u8)) 22 _ w.heap.size _ _ ((rd_T28 t146 1).f1) from Kd.V_mk ul155_1 ge155_1); clear hva_ hvn_ hvc_ ge155_1 ul155_1; have hv155_2 := hcc155 2 _ rfl; rw [add_field _ _ 2 (by omega)] at hv155_2; replace hv155_2 := Option.some.inj (hv155_2.symm.trans hx155_2); injection hv155_2 with hva_ hvn_ hvc_; rw [hva_] at ge155_2; rw [hvc_] at ul155_2; have HL155_2 := Aside0.mk (show Kd.V (Kd.slice 5 (Kd.int .u8)) 22 _ w.heap.size _ _ ((rd_T28 t146 1).f2) from Kd.V_mk ul155_2 ge155_2); clear hva_ hvn_ hvc_ ge155_2 ul155_2; (try clear hcc155); (try clear hce155); (try simp only [show (1 : Int).toNat = 1 from rfl, Nat.reduceMul, Nat.reduceEqDiff, Go.Addr.add, ↓reduceIte] at hx155_0); (try simp only [show (1 : Int).toNat = 1 from rfl, Nat.reduceMul, Nat.reduceEqDiff, Go.Addr.add, ↓reduceIte] at hx155_1); (try simp only [show (1 : Int).toNat = 1 from rfl, Nat.reduceMul, Nat.reduceEqDiff, Go.Addr.add, ↓reduceIte] at hx155_2); have qi155 : (1 < t146.length) = True := eq_true (by omega); (try rw [show ((1 : Int)).toNat = 1 from rfl] at hx155_0); (try rw [show 1 * 3 = 3 from rfl] at hx155_0); (try rw [show ((1 : Int)).toNat = 1 from rfl] at hx155_1); (try rw [show 1 * 3 = 3 from rfl] at hx155_1); (try rw [show ((1 : Int)).toNat = 1 from rfl] at hx155_2); (try rw [show 1 * 3 = 3 from rfl] at hx155_2); have HR155_1 := Aside0.mk hi155_1; have HC155_1 := Aside0.mk hl155_1; (try clear hi155_1); (try clear hl155_1); have HR155_2 := Aside0.mk hi155_2; have HC155_2 := Aside0.mk hl155_2; (try clear hi155_2); (try clear hl155_2); replace p155 := eq_true p155; replace q155 := eq_true q155; have ea_ := Option.some.inj (hx154_1.symm.trans hx155_1); injection ea_ with ea_ en_ ec_; subst ea_; subst ec_; clear en_; have ea_ := Option.some.inj (hx154_2.symm.trans hx155_2); injection ea_ with ea_ en_ ec_; subst ea_; subst ec_; clear en_))
              go_ret
              exact ⟨by first | rfl | (simp [errW_none, errW_some] <;> rfl) | (simp [*, errW_none, errW_some] <;> rfl), by repeat (first | (with_reducible first | exact HB.out | apply below_alloc | apply pw_below_drewN | apply below_drew1) | exact HB.out)⟩
             ·rw [if_neg c15] at H
              have c15b0 : (((rd_T28 t146 1).f0) == 1) = false := beq_eq_false_iff_ne.mpr c15
              have c15b1 : (((rd_T28 t146 1).f0) != 1) = true := bne_iff_ne.mpr c15
              exact absurd (Option.some.inj H) (by rw [hr_]; decide)
            ·rw [if_neg c14] at H
             exact absurd H (by simp)
           ·rw [if_neg c13] at H
            have c13b0 : ((((rd_T28 t146 0).f2).length : Int) == 1) = false := beq_eq_false_iff_ne.mpr c13
            have c13b1 : ((((rd_T28 t146 0).f2).length : Int) != 1) = true := bne_iff_ne.mpr c13
            exact absurd (Option.some.inj H) (by rw [hr_]; decide)
          ·rw [if_neg c12] at H
           have c12b0 : (((rd_T28 t146 0).f0) == 0) = false := beq_eq_false_iff_ne.mpr c12
           have c12b1 : (((rd_T28 t146 0).f0) != 0) = true := bne_iff_ne.mpr c12
           exact absurd (Option.some.inj H) (by rw [hr_]; decide)
         ·rw [if_neg c11] at H
          exact absurd H (by simp)
        ·rw [if_neg c10] at H
         have c10b0 : ((t146.length : Int) == 2) = false := beq_eq_false_iff_ne.mpr c10
         have c10b1 : ((t146.length : Int) != 2) = true := bne_iff_ne.mpr c10
         exact absurd (Option.some.inj H) (by rw [hr_]; decide)
       ·rw [if_neg c9] at H
        have c9b0 : (t149 == 0) = false := beq_eq_false_iff_ne.mpr c9
        have c9b1 : (t149 != 0) = true := bne_iff_ne.mpr c9
        exact absurd (Option.some.inj H) (by rw [hr_]; decide)
      ·rw [if_neg c8] at H
       have c8b0 : ((strOfNums (rd_L1 t142 1)).toList == ([99] : List UInt8)) = false := beq_eq_false_iff_ne.mpr c8
       have c8b1 : ((strOfNums (rd_L1 t142 1)).toList != ([99] : List UInt8)) = true := bne_iff_ne.mpr c8
       exact absurd (Option.some.inj H) (by rw [hr_]; decide)
     ·rw [if_neg c7] at H
      exact absurd H (by simp)
    ·rw [if_neg c6] at H
     have c6b0 : ((strOfNums (rd_L1 t142 0)).toList == ([98] : List UInt8)) = false := beq_eq_false_iff_ne.mpr c6
     have c6b1 : ((strOfNums (rd_L1 t142 0)).toList != ([98] : List UInt8)) = true := bne_iff_ne.mpr c6
     exact absurd (Option.some.inj H) (by rw [hr_]; decide)
   ·rw [if_neg c5] at H
    exact absurd H (by simp)
  ·rw [if_neg c4] at H
   have c4b0 : ((t142.length : Int) == 2) = false := beq_eq_false_iff_ne.mpr c4
   have c4b1 : ((t142.length : Int) != 2) = true := bne_iff_ne.mpr c4
   exact absurd (Option.some.inj H) (by rw [hr_]; decide)
 ·rw [if_neg c3] at H
  have c3b0 : (t145 == 0) = false := beq_eq_false_iff_ne.mpr c3
  have c3b1 : (t145 != 0) = true := bne_iff_ne.mpr c3
  exact absurd (Option.some.inj H) (by rw [hr_]; decide)

/-! ### tattinglaw25_few: function 13 -/
def tattinglaw25_few.l0 : Nat → List (List Int) → Int → Option (Bool)
 | 0, _, _ => none
 | k + 1, x0, x3 => if x3 < (x0.length : Int) then (if 0 ≤ x3 then (if ((rd_L1 x0 x3).length : Int) > 30 then (some false) else (tattinglaw25_few.l0 k x0 (wrap64 (x3 + 1)))) else (none)) else (some true)
def tattinglaw25_few.f (k : Nat) (l0 : List (List Int)) : Option (Bool) := if (l0.length : Int) > 30 then (some false) else (tattinglaw25_few.l0 k l0 0)
theorem tattinglaw25_few.mono_l : ∀ k, (∀ y0 y1, LeO (tattinglaw25_few.l0 k y0 y1) (tattinglaw25_few.l0 (k + 1) y0 y1))
 | 0 => fun _ _ r h => by simp [tattinglaw25_few.l0] at h
 | k + 1 => by
  have ih0 := tattinglaw25_few.mono_l k
  ·intro y0 y1
   unfold tattinglaw25_few.l0
   repeat' first
   | (with_reducible exact ih0 _ _)
   | (with_reducible exact LeO.refl _)
   | (with_reducible exact LeO.none _)
   | (with_reducible refine LeO.ite ?_ ?_)
   | (with_reducible refine LeO.bind ?_ (fun _ => ?_))
   | exact ih0 _ _
   | exact LeO.none _
   | refine LeO.ite ?_ ?_
   | refine LeO.bind ?_ (fun _ => ?_)
theorem tattinglaw25_few.mono : ∀ a0 k, LeO (tattinglaw25_few.f k a0) (tattinglaw25_few.f (k + 1) a0) := by
 intro a0 k
 have ih0 := tattinglaw25_few.mono_l k
 unfold tattinglaw25_few.f
 repeat' first
   | (with_reducible exact ih0 _ _)
   | (with_reducible exact LeO.refl _)
   | (with_reducible exact LeO.none _)
   | (with_reducible refine LeO.ite ?_ ?_)
   | (with_reducible refine LeO.bind ?_ (fun _ => ?_))
   | exact ih0 _ _
   | exact LeO.none _
   | refine LeO.ite ?_ ?_
   | refine LeO.bind ?_ (fun _ => ?_)
set_option maxHeartbeats 8000000 in
set_option maxRecDepth 100000 in
theorem tattinglaw25_few.calls (k : Nat) (A0 : Option Addr) (c0 : Nat) (l0 : List (List Int)) (r : Bool) (w : World) (hr0 : Kd.C (Kd.slice 5 (Kd.int .u8)) w A0 l0.length l0) (hc0 : l0.length ≤ c0) (h : tattinglaw25_few.f k l0 = some r) :
  Calls Try.prog 13 #[.slice A0 l0.length c0] w fun e w' => e = .returned (.bool r) ∧ Drawn0 w w' := by
 have HR0 := Aside0.mk hr0
 have HC0 := Aside0.mk hc0
 clear hr0 hc0
 have H : (if (l0.length : Int) > 30 then (some false) else (tattinglaw25_few.l0 k l0 0)) = some r := h
 clear h
 by_cases c2 : (l0.length : Int) > 30
 ·rw [if_pos c2] at H
  have c2b0 : decide (30 < (l0.length : Int)) = true := decide_eq_true c2
  have c2b1 : decide (30 < l0.length) = true := decide_eq_true (by omega)
  clear c2
  obtain rfl := Option.some.inj H
  go_enter Try.func13, Try.ntmps13
  go_wp2
  go_ret
  exact ⟨by first | rfl | (simp; done) | (simp [*]; done), by repeat (first | exact Drawn0.refl _ | apply Drawn0.step)⟩
 ·rw [if_neg c2] at H
  have c2b0 : decide (30 < (l0.length : Int)) = false := decide_eq_false c2
  have c2b1 : decide (30 < l0.length) = false := decide_eq_false (by omega)
  clear c2
  have H' := Aside0.mk H
  clear H
  go_enter Try.func13, Try.ntmps13
  go_wp2
  go_loopg [3] k (fun kq v3 w' => ∃ (x3_1 : Int), v3 = .int .i64 x3_1 ∧ Aside0 (tattinglaw25_few.l0 kq l0 x3_1 = some r) ∧ Aside0 (kq ≤ k) ∧ Drawn0 w w')
  case atStart => exact ⟨(0), (by first | rfl | (simp; done) | (simp [*]; done)), H', ⟨Nat.le_refl _⟩, by repeat (first | exact Drawn0.refl _ | apply Drawn0.step)⟩
  case round =>
   clear H'
   try clear c1
   try clear c2
   try clear c2b0
   try clear c2b1
   try clear p2
   obtain ⟨x3_1, rfl, HA, HK1, ⟨m1, rfl⟩⟩ := hrel
   cases gk with
   | zero => exact absurd HA.out (by simp [tattinglaw25_few.l0])
   | succ k1 =>
    have H := HA.out
    clear HA
    simp only [tattinglaw25_few.l0] at H
    by_cases c3 : x3_1 < (l0.length : Int)
    ·rw [if_pos c3] at H
     have c3b0 : decide (x3_1 < (l0.length : Int)) = true := decide_eq_true c3
     clear c3
     by_cases c4 : 0 ≤ x3_1
     ·rw [if_pos c4] at H
      have c4b0 : decide (0 ≤ x3_1) = true := decide_eq_true c4
      clear c4
      by_cases c5 : ((rd_L1 l0 x3_1).length : Int) > 30
      ·rw [if_pos c5] at H
       have c5b0 : decide (30 < ((rd_L1 l0 x3_1).length : Int)) = true := decide_eq_true c5
       have c5b1 : decide (30 < (rd_L1 l0 x3_1).length) = true := decide_eq_true (by omega)
       clear c5
       obtain rfl := Option.some.inj H
       have p156 : 0 ≤ (x3_1 : Int) := of_decide_eq_true (by first | (with_reducible assumption) | assumption)
       have q156 : x3_1 < (l0.length : Int) := of_decide_eq_true (by first | (with_reducible assumption) | assumption)
       obtain ⟨ad156, A156_0, c156_0, e156, hx156_0, hl156_0, hi156_0⟩ := at_L1 HR0.out x3_1 p156 q156
       cases e156
       have HR156_0 := Aside0.mk hi156_0
       have HC156_0 := Aside0.mk hl156_0
       clear hi156_0 hl156_0
       replace p156 := eq_true p156
       replace q156 := eq_true q156
       go_wp2
       go_ret
       exact ⟨by first | rfl | (simp; done) | (simp [*]; done), by repeat (first | exact Drawn0.refl _ | apply Drawn0.step)⟩
      ·rw [if_neg c5] at H
       have c5b0 : decide (30 < ((rd_L1 l0 x3_1).length : Int)) = false := decide_eq_false c5
       have c5b1 : decide (30 < (rd_L1 l0 x3_1).length) = false := decide_eq_false (by omega)
       clear c5
       have H' := Aside0.mk H
       clear H
       have p156 : 0 ≤ (x3_1 : Int) := of_decide_eq_true (by first | (with_reducible assumption) | assumption)
       have q156 : x3_1 < (l0.length : Int) := of_decide_eq_true (by first | (with_reducible assumption) | assumption)
       obtain ⟨ad156, A156_0, c156_0, e156, hx156_0, hl156_0, hi156_0⟩ := at_L1 HR0.out x3_1 p156 q156
       cases e156
       have HR156_0 := Aside0.mk hi156_0
       have HC156_0 := Aside0.mk hl156_0
       clear hi156_0 hl156_0
       replace p156 := eq_true p156
       replace q156 := eq_true q156
       go_wp2
       go_roundg k1
       case measure => have := HK1.out; omega
       case rel => exact ⟨(wrap64 (x3_1 + 1)), (by first | rfl | (simp; done) | (simp [*]; done)), H', ⟨by have := HK1.out; omega⟩, by repeat (first | exact Drawn0.refl _ | apply Drawn0.step)⟩
     ·rw [if_neg c4] at H
      exact absurd H (by simp)
    ·rw [if_neg c3] at H
     have c3b0 : decide (x3_1 < (l0.length : Int)) = false := decide_eq_false c3
     clear c3
     obtain rfl := Option.some.inj H
     go_wp2
     go_ret
     exact ⟨by first | rfl | (simp; done) | (simp [*]; done), by repeat (first | exact Drawn0.refl _ | apply Drawn0.step)⟩

/-! ### tattingref1_SameTokens: function 15 -/
def tattingref1_SameTokens.l0 : Nat → List (List Int) → List (List Int) → Int → Option (Bool)
 | 0, _, _, _ => none
 | k + 1, x0, x1, x5 => if x5 < (x0.length : Int) then (if 0 ≤ x5 then (if x5 < (x1.length : Int) then (if (strOfNums (rd_L1 x0 x5)).toList = (strOfNums (rd_L1 x1 x5)).toList then (tattingref1_SameTokens.l0 k x0 x1 (wrap64 (x5 + 1))) else (some false)) else (none)) else (none)) else (some true)
def tattingref1_SameTokens.f (k : Nat) (l0 : List (List Int)) (l1 : List (List Int)) : Option (Bool) := if (l0.length : Int) = (l1.length : Int) then (tattingref1_SameTokens.l0 k l0 l1 0) else (some false)
theorem tattingref1_SameTokens.mono_l : ∀ k, (∀ y0 y1 y2, LeO (tattingref1_SameTokens.l0 k y0 y1 y2) (tattingref1_SameTokens.l0 (k + 1) y0 y1 y2))
 | 0 => fun _ _ _ r h => by simp [tattingref1_SameTokens.l0] at h
 | k + 1 => by
  have ih0 := tattingref1_SameTokens.mono_l k
  ·intro y0 y1 y2
   unfold tattingref1_SameTokens.l0
   repeat' first
   | (with_reducible exact ih0 _ _ _)
   | (with_reducible exact LeO.refl _)
   | (with_reducible exact LeO.none _)
   | (with_reducible refine LeO.ite ?_ ?_)
   | (with_reducible refine LeO.bind ?_ (fun _ => ?_))
   | exact ih0 _ _ _
   | exact LeO.none _
   | refine LeO.ite ?_ ?_
   | refine LeO.bind ?_ (fun _ => ?_)
theorem tattingref1_SameTokens.mono : ∀ a0 a1 k, LeO (tattingref1_SameTokens.f k a0 a1) (tattingref1_SameTokens.f (k + 1) a0 a1) := by
 intro a0 a1 k
 have ih0 := tattingref1_SameTokens.mono_l k
 unfold tattingref1_SameTokens.f
 repeat' first
   | (with_reducible exact ih0 _ _ _)
   | (with_reducible exact LeO.refl _)
   | (with_reducible exact LeO.none _)
   | (with_reducible refine LeO.ite ?_ ?_)
   | (with_reducible refine LeO.bind ?_ (fun _ => ?_))
   | exact ih0 _ _ _
   | exact LeO.none _
   | refine LeO.ite ?_ ?_
   | refine LeO.bind ?_ (fun _ => ?_)
set_option maxHeartbeats 8000000 in
set_option maxRecDepth 100000 in
theorem tattingref1_SameTokens.calls (k : Nat) (A0 : Option Addr) (c0 : Nat) (l0 : List (List Int)) (A1 : Option Addr) (c1 : Nat) (l1 : List (List Int)) (r : Bool) (w : World) (hr0 : Kd.C (Kd.slice 5 (Kd.int .u8)) w A0 l0.length l0) (hc0 : l0.length ≤ c0) (hr1 : Kd.C (Kd.slice 5 (Kd.int .u8)) w A1 l1.length l1) (hc1 : l1.length ≤ c1) (h : tattingref1_SameTokens.f k l0 l1 = some r) :
  Calls Try.prog 15 #[.slice A0 l0.length c0, .slice A1 l1.length c1] w fun e w' => e = .returned (.bool r) ∧ Drawn0 w w' := by
 have HR0 := Aside0.mk hr0
 have HC0 := Aside0.mk hc0
 clear hr0 hc0
 have HR1 := Aside0.mk hr1
 have HC1 := Aside0.mk hc1
 clear hr1 hc1
 have H : (if (l0.length : Int) = (l1.length : Int) then (tattingref1_SameTokens.l0 k l0 l1 0) else (some false)) = some r := h
 clear h
 by_cases c3 : (l0.length : Int) = (l1.length : Int)
 ·rw [if_pos c3] at H
  have c3b0 : ((l0.length : Int) == (l1.length : Int)) = true := beq_iff_eq.mpr c3
  have c3b1 : ((l0.length : Int) != (l1.length : Int)) = false := bne_eq_false_iff_eq.mpr c3
  have c3b2 : (l0.length == l1.length) = true := by first | simpa using c3 | (simp at c3 ⊢; omega)
  clear c3
  have H' := Aside0.mk H
  clear H
  go_enter Try.func15, Try.ntmps15
  go_wp2
  repeat (go_quiet (fail); try go_wp2)
  go_loopg [5] k (fun kq v5 w' => ∃ (x5_1 : Int), v5 = .int .i64 x5_1 ∧ Aside0 (tattingref1_SameTokens.l0 kq l0 l1 x5_1 = some r) ∧ Aside0 (kq ≤ k) ∧ Drawn0 w w')
  case atStart => exact ⟨(0), (by first | rfl | (simp; done) | (simp [*]; done)), H', ⟨Nat.le_refl _⟩, by repeat (first | exact Drawn0.refl _ | apply Drawn0.step)⟩
  case round =>
   clear H'
   try clear c1
   try clear p2
   try clear c3
   try clear c3b0
   try clear c3b1
   try clear c3b2
   obtain ⟨x5_1, rfl, HA, HK1, ⟨m1, rfl⟩⟩ := hrel
   cases gk with
   | zero => exact absurd HA.out (by simp [tattingref1_SameTokens.l0])
   | succ k1 =>
    have H := HA.out
    clear HA
    simp only [tattingref1_SameTokens.l0] at H
    by_cases c4 : x5_1 < (l0.length : Int)
    ·rw [if_pos c4] at H
     have c4b0 : decide (x5_1 < (l0.length : Int)) = true := decide_eq_true c4
     clear c4
     by_cases c5 : 0 ≤ x5_1
     ·rw [if_pos c5] at H
      have c5b0 : decide (0 ≤ x5_1) = true := decide_eq_true c5
      clear c5
      by_cases c6 : x5_1 < (l1.length : Int)
      ·rw [if_pos c6] at H
       have c6b0 : decide (x5_1 < (l1.length : Int)) = true := decide_eq_true c6
       clear c6
       by_cases c7 : (strOfNums (rd_L1 l0 x5_1)).toList = (strOfNums (rd_L1 l1 x5_1)).toList
       ·rw [if_pos c7] at H
        have c7b0 : ((strOfNums (rd_L1 l0 x5_1)).toList == (strOfNums (rd_L1 l1 x5_1)).toList) = true := beq_iff_eq.mpr c7
        have c7b1 : ((strOfNums (rd_L1 l0 x5_1)).toList != (strOfNums (rd_L1 l1 x5_1)).toList) = false := bne_eq_false_iff_eq.mpr c7
        clear c7
        have H' := Aside0.mk H
        clear H
        have p157 : 0 ≤ (x5_1 : Int) := of_decide_eq_true (by first | (with_reducible assumption) | assumption)
        have q157 : x5_1 < (l0.length : Int) := of_decide_eq_true (by first | (with_reducible assumption) | assumption)
        obtain ⟨ad157, A157_0, c157_0, e157, hx157_0, hl157_0, hi157_0⟩ := at_L1 HR0.out x5_1 p157 q157
        cases e157
        have HR157_0 := Aside0.mk hi157_0
        have HC157_0 := Aside0.mk hl157_0
        clear hi157_0 hl157_0
        replace p157 := eq_true p157
        replace q157 := eq_true q157
        have hcv8 := Kd.C_string (P := Try.prog) (A := A157_0) (c := c157_0) Try.underlying22 Try.underlying5 Try.underlying9 HR157_0.out
        have hcvd9 := fun nd_ => Kd.C_string (P := Try.prog) (A := A157_0) (c := c157_0) Try.underlying22 Try.underlying5 Try.underlying9 (Kd.C_drewN HR157_0.out nd_)
        have p158 : 0 ≤ (x5_1 : Int) := of_decide_eq_true (by first | (with_reducible assumption) | assumption)
        have q158 : x5_1 < (l1.length : Int) := of_decide_eq_true (by first | (with_reducible assumption) | assumption)
        obtain ⟨ad158, A158_0, c158_0, e158, hx158_0, hl158_0, hi158_0⟩ := at_L1 HR1.out x5_1 p158 q158
        cases e158
        have HR158_0 := Aside0.mk hi158_0
        have HC158_0 := Aside0.mk hl158_0
        clear hi158_0 hl158_0
        replace p158 := eq_true p158
        replace q158 := eq_true q158
        have hcv10 := Kd.C_string (P := Try.prog) (A := A158_0) (c := c158_0) Try.underlying22 Try.underlying5 Try.underlying9 HR158_0.out
        have hcvd11 := fun nd_ => Kd.C_string (P := Try.prog) (A := A158_0) (c := c158_0) Try.underlying22 Try.underlying5 Try.underlying9 (Kd.C_drewN HR158_0.out nd_)
        go_wp2
        repeat (go_quiet (fail); try go_wp2)
        go_roundg k1
        case measure => have := HK1.out; omega
        case rel => exact ⟨(wrap64 (x5_1 + 1)), (by first | rfl | (simp; done) | (simp [*]; done)), H', ⟨by have := HK1.out; omega⟩, by repeat (first | exact Drawn0.refl _ | apply Drawn0.step)⟩
       ·rw [if_neg c7] at H
        have c7b0 : ((strOfNums (rd_L1 l0 x5_1)).toList == (strOfNums (rd_L1 l1 x5_1)).toList) = false := beq_eq_false_iff_ne.mpr c7
        have c7b1 : ((strOfNums (rd_L1 l0 x5_1)).toList != (strOfNums (rd_L1 l1 x5_1)).toList) = true := bne_iff_ne.mpr c7
        obtain rfl := Option.some.inj H
        have p157 : 0 ≤ (x5_1 : Int) := of_decide_eq_true (by first | (with_reducible assumption) | assumption)
        have q157 : x5_1 < (l0.length : Int) := of_decide_eq_true (by first | (with_reducible assumption) | assumption)
        obtain ⟨ad157, A157_0, c157_0, e157, hx157_0, hl157_0, hi157_0⟩ := at_L1 HR0.out x5_1 p157 q157
        cases e157
        have HR157_0 := Aside0.mk hi157_0
        have HC157_0 := Aside0.mk hl157_0
        clear hi157_0 hl157_0
        replace p157 := eq_true p157
        replace q157 := eq_true q157
        have hcv12 := Kd.C_string (P := Try.prog) (A := A157_0) (c := c157_0) Try.underlying22 Try.underlying5 Try.underlying9 HR157_0.out
        have hcvd13 := fun nd_ => Kd.C_string (P := Try.prog) (A := A157_0) (c := c157_0) Try.underlying22 Try.underlying5 Try.underlying9 (Kd.C_drewN HR157_0.out nd_)
        have p158 : 0 ≤ (x5_1 : Int) := of_decide_eq_true (by first | (with_reducible assumption) | assumption)
        have q158 : x5_1 < (l1.length : Int) := of_decide_eq_true (by first | (with_reducible assumption) | assumption)
        obtain ⟨ad158, A158_0, c158_0, e158, hx158_0, hl158_0, hi158_0⟩ := at_L1 HR1.out x5_1 p158 q158
        cases e158
        have HR158_0 := Aside0.mk hi158_0
        have HC158_0 := Aside0.mk hl158_0
        clear hi158_0 hl158_0
        replace p158 := eq_true p158
        replace q158 := eq_true q158
        have hcv14 := Kd.C_string (P := Try.prog) (A := A158_0) (c := c158_0) Try.underlying22 Try.underlying5 Try.underlying9 HR158_0.out
        have hcvd15 := fun nd_ => Kd.C_string (P := Try.prog) (A := A158_0) (c := c158_0) Try.underlying22 Try.underlying5 Try.underlying9 (Kd.C_drewN HR158_0.out nd_)
        go_wp2
        repeat (go_quiet (fail); try go_wp2)
        go_ret
        exact ⟨by first | rfl | (simp; done) | (simp [*]; done), by repeat (first | exact Drawn0.refl _ | apply Drawn0.step)⟩
      ·rw [if_neg c6] at H
       exact absurd H (by simp)
     ·rw [if_neg c5] at H
      exact absurd H (by simp)
    ·rw [if_neg c4] at H
     have c4b0 : decide (x5_1 < (l0.length : Int)) = false := decide_eq_false c4
     clear c4
     obtain rfl := Option.some.inj H
     go_wp2
     repeat (go_quiet (fail); try go_wp2)
     go_ret
     exact ⟨by first | rfl | (simp; done) | (simp [*]; done), by repeat (first | exact Drawn0.refl _ | apply Drawn0.step)⟩
 ·rw [if_neg c3] at H
  have c3b0 : ((l0.length : Int) == (l1.length : Int)) = false := beq_eq_false_iff_ne.mpr c3
  have c3b1 : ((l0.length : Int) != (l1.length : Int)) = true := bne_iff_ne.mpr c3
  have c3b2 : (l0.length == l1.length) = false := by first | simpa using c3 | (simp at c3 ⊢; omega)
  obtain rfl := Option.some.inj H
  go_enter Try.func15, Try.ntmps15
  go_wp2
  repeat (go_quiet (fail); try go_wp2)
  go_ret
  exact ⟨by first | rfl | (simp; done) | (simp [*]; done), by repeat (first | exact Drawn0.refl _ | apply Drawn0.step)⟩

/-! ### tattingref1_Below: function 37 -/
mutual
def tattingref1_Below.l0 : Nat → List Int → List Int → Int → Option (Bool)
 | 0, _, _, _ => none
 | k + 1, x0, x1, x5 => if x5 < (x0.length : Int) then (tattingref1_Below.j1 k x0 x1 x5 (decide (x5 < (x1.length : Int)))) else (tattingref1_Below.j1 k x0 x1 x5 false)
def tattingref1_Below.j1 : Nat → List Int → List Int → Int → Bool → Option (Bool)
 | 0, _, _, _, _ => none
 | k + 1, x0, x1, x5, x15 => if x15 = true then (if 0 ≤ x5 then (if x5 < (x0.length : Int) then (if x5 < (x1.length : Int) then (if (rd x0 x5) = (rd x1 x5) then (tattingref1_Below.l0 k x0 x1 (wrap64 (x5 + 1))) else (some (decide ((rd x0 x5) < (rd x1 x5))))) else (none)) else (none)) else (none)) else (some (decide ((x0.length : Int) < (x1.length : Int))))
end
def tattingref1_Below.f (k : Nat) (l0 : List Int) (l1 : List Int) : Option (Bool) := tattingref1_Below.l0 k l0 l1 0
theorem tattingref1_Below.mono_l : ∀ k, (∀ y0 y1 y2, LeO (tattingref1_Below.l0 k y0 y1 y2) (tattingref1_Below.l0 (k + 1) y0 y1 y2)) ∧ (∀ y0 y1 y2 y3, LeO (tattingref1_Below.j1 k y0 y1 y2 y3) (tattingref1_Below.j1 (k + 1) y0 y1 y2 y3))
 | 0 => ⟨fun _ _ _ r h => by simp [tattingref1_Below.l0] at h, fun _ _ _ _ r h => by simp [tattingref1_Below.j1] at h⟩
 | k + 1 => by
  obtain ⟨ih0, ih1⟩ := tattingref1_Below.mono_l k
  refine ⟨?_, ?_⟩
  ·intro y0 y1 y2
   unfold tattingref1_Below.l0
   repeat' first
   | (with_reducible exact ih0 _ _ _)
   | (with_reducible exact ih1 _ _ _ _)
   | (with_reducible exact LeO.refl _)
   | (with_reducible exact LeO.none _)
   | (with_reducible refine LeO.ite ?_ ?_)
   | (with_reducible refine LeO.bind ?_ (fun _ => ?_))
   | exact ih0 _ _ _
   | exact ih1 _ _ _ _
   | exact LeO.none _
   | refine LeO.ite ?_ ?_
   | refine LeO.bind ?_ (fun _ => ?_)
  ·intro y0 y1 y2 y3
   unfold tattingref1_Below.j1
   repeat' first
   | (with_reducible exact ih0 _ _ _)
   | (with_reducible exact ih1 _ _ _ _)
   | (with_reducible exact LeO.refl _)
   | (with_reducible exact LeO.none _)
   | (with_reducible refine LeO.ite ?_ ?_)
   | (with_reducible refine LeO.bind ?_ (fun _ => ?_))
   | exact ih0 _ _ _
   | exact ih1 _ _ _ _
   | exact LeO.none _
   | refine LeO.ite ?_ ?_
   | refine LeO.bind ?_ (fun _ => ?_)
theorem tattingref1_Below.mono : ∀ a0 a1 k, LeO (tattingref1_Below.f k a0 a1) (tattingref1_Below.f (k + 1) a0 a1) := by
 intro a0 a1 k
 obtain ⟨ih0, ih1⟩ := tattingref1_Below.mono_l k
 unfold tattingref1_Below.f
 repeat' first
   | (with_reducible exact ih0 _ _ _)
   | (with_reducible exact ih1 _ _ _ _)
   | (with_reducible exact LeO.refl _)
   | (with_reducible exact LeO.none _)
   | (with_reducible refine LeO.ite ?_ ?_)
   | (with_reducible refine LeO.bind ?_ (fun _ => ?_))
   | exact ih0 _ _ _
   | exact ih1 _ _ _ _
   | exact LeO.none _
   | refine LeO.ite ?_ ?_
   | refine LeO.bind ?_ (fun _ => ?_)
set_option maxHeartbeats 8000000 in
set_option maxRecDepth 100000 in
theorem tattingref1_Below.calls (k : Nat) (A0 : Option Addr) (c0 : Nat) (l0 : List Int) (A1 : Option Addr) (c1 : Nat) (l1 : List Int) (r : Bool) (w : World) (hr0 : Kd.C (Kd.int .u8) w A0 l0.length l0) (hc0 : l0.length ≤ c0) (hr1 : Kd.C (Kd.int .u8) w A1 l1.length l1) (hc1 : l1.length ≤ c1) (h : tattingref1_Below.f k l0 l1 = some r) :
  Calls Try.prog 37 #[.slice A0 l0.length c0, .slice A1 l1.length c1] w fun e w' => e = .returned (.bool r) ∧ Drawn0 w w' := by
 have HR0 := Aside0.mk hr0
 have HC0 := Aside0.mk hc0
 clear hr0 hc0
 have HR1 := Aside0.mk hr1
 have HC1 := Aside0.mk hc1
 clear hr1 hc1
 have H : (tattingref1_Below.l0 k l0 l1 0) = some r := h
 clear h
 have H' := Aside0.mk H
 clear H
 go_enter Try.func37, Try.ntmps37
 go_wp2
 repeat (go_quiet (fail); try go_wp2)
 go_loopg [5] k (fun kq v5 w' => ∃ (x5_1 : Int), v5 = .int .i64 x5_1 ∧ Aside0 (tattingref1_Below.l0 kq l0 l1 x5_1 = some r) ∧ Aside0 (kq ≤ k) ∧ Drawn0 w w')
 case atStart => exact ⟨(0), (by first | rfl | (simp; done) | (simp [*]; done)), H', ⟨Nat.le_refl _⟩, by repeat (first | exact Drawn0.refl _ | apply Drawn0.step)⟩
 case round =>
  clear H'
  try clear c1
  try clear p2
  obtain ⟨x5_1, rfl, HA, HK1, ⟨m1, rfl⟩⟩ := hrel
  cases gk with
  | zero => exact absurd HA.out (by simp [tattingref1_Below.l0])
  | succ k1 =>
   have H := HA.out
   clear HA
   simp only [tattingref1_Below.l0] at H
   have HC3 := Aside0.mk H
   clear H
   go_upto_region 2 with (fail)
   repeat (go_quiet (fail); go_upto_region 2 with (fail))
   go_cut [15] (fun v15 wc => ∃ (kq : Nat) (x15_2 : Bool), v15 = .bool x15_2 ∧ Aside0 (tattingref1_Below.j1 kq l0 l1 x5_1 x15_2 = some r) ∧ Aside0 (kq ≤ k1) ∧ Drawn0 w wc)
   case first =>
    have H := HC3.out
    clear HC3
    by_cases c4 : x5_1 < (l0.length : Int)
    ·rw [if_pos c4] at H
     have c4b0 : decide (x5_1 < (l0.length : Int)) = true := decide_eq_true c4
     clear c4
     (first | rw [c4b0] | (simp only [i64_w, i32_w]; rw [c4b0]) | skip)
     have H' := Aside0.mk H
     clear H
     go_wp2
     repeat (go_quiet (fail); try go_wp2)
     go_meet
     case rel => exact ⟨_, (decide (x5_1 < (l1.length : Int))), (by first | rfl | (simp; done) | (simp [*]; done)), H', ⟨by have := HK1.out; first | omega | exact Nat.le_refl _⟩, by repeat (first | exact Drawn0.refl _ | apply Drawn0.step)⟩
    ·rw [if_neg c4] at H
     have c4b0 : decide (x5_1 < (l0.length : Int)) = false := decide_eq_false c4
     clear c4
     (first | rw [c4b0] | (simp only [i64_w, i32_w]; rw [c4b0]) | skip)
     have H' := Aside0.mk H
     clear H
     go_wp2
     repeat (go_quiet (fail); try go_wp2)
     go_meet
     case rel => exact ⟨_, (false), (by first | rfl | (simp; done) | (simp [*]; done)), H', ⟨by have := HK1.out; first | omega | exact Nat.le_refl _⟩, by repeat (first | exact Drawn0.refl _ | apply Drawn0.step)⟩
   case rest =>
    clear HC3
    try clear c1
    try clear p2
    try clear c3
    try clear c4
    try clear c4b0
    try clear p2
    obtain ⟨kq, x15_2, rfl, HA, HJ2, ⟨mc2, rfl⟩⟩ := hcut
    cases kq with
    | zero => exact absurd HA.out (by simp [tattingref1_Below.j1])
    | succ kj2 =>
     have H := HA.out
     clear HA
     simp only [tattingref1_Below.j1] at H
     by_cases c5 : x15_2 = true
     ·subst c5
      have H1 : (if 0 ≤ x5_1 then (if x5_1 < (l0.length : Int) then (if x5_1 < (l1.length : Int) then (if (rd l0 x5_1) = (rd l1 x5_1) then (tattingref1_Below.l0 kj2 l0 l1 (wrap64 (x5_1 + 1))) else (some (decide ((rd l0 x5_1) < (rd l1 x5_1))))) else (none)) else (none)) else (none)) = some r := by rw [if_pos rfl] at H; exact H
      clear H
      have H := H1
      clear H1
      by_cases c6 : 0 ≤ x5_1
      ·rw [if_pos c6] at H
       have c6b0 : decide (0 ≤ x5_1) = true := decide_eq_true c6
       clear c6
       by_cases c7 : x5_1 < (l0.length : Int)
       ·rw [if_pos c7] at H
        have c7b0 : decide (x5_1 < (l0.length : Int)) = true := decide_eq_true c7
        clear c7
        by_cases c8 : x5_1 < (l1.length : Int)
        ·rw [if_pos c8] at H
         have c8b0 : decide (x5_1 < (l1.length : Int)) = true := decide_eq_true c8
         clear c8
         by_cases c9 : (rd l0 x5_1) = (rd l1 x5_1)
         ·rw [if_pos c9] at H
          have c9b0 : ((rd l0 x5_1) == (rd l1 x5_1)) = true := beq_iff_eq.mpr c9
          have c9b1 : ((rd l0 x5_1) != (rd l1 x5_1)) = false := bne_eq_false_iff_eq.mpr c9
          clear c9
          have H' := Aside0.mk H
          clear H
          have p159 : 0 ≤ (x5_1 : Int) := of_decide_eq_true (by first | (with_reducible assumption) | assumption)
          have q159 : x5_1 < (l0.length : Int) := of_decide_eq_true (by first | (with_reducible assumption) | assumption)
          obtain ⟨ad159, e159, hx159_0⟩ := Kd.at_int HR0.out x5_1 p159 q159
          cases e159
          replace p159 := eq_true p159
          replace q159 := eq_true q159
          have p160 : 0 ≤ (x5_1 : Int) := of_decide_eq_true (by first | (with_reducible assumption) | assumption)
          have q160 : x5_1 < (l1.length : Int) := of_decide_eq_true (by first | (with_reducible assumption) | assumption)
          obtain ⟨ad160, e160, hx160_0⟩ := Kd.at_int HR1.out x5_1 p160 q160
          cases e160
          replace p160 := eq_true p160
          replace q160 := eq_true q160
          go_wp2
          repeat (go_quiet (fail); try go_wp2)
          go_roundg kj2
          case measure => have := HK1.out; have := HJ2.out; omega
          case rel => exact ⟨(wrap64 (x5_1 + 1)), (by first | rfl | (simp; done) | (simp [*]; done)), H', ⟨by have := HK1.out; have := HJ2.out; omega⟩, by repeat (first | exact Drawn0.refl _ | apply Drawn0.step)⟩
         ·rw [if_neg c9] at H
          have c9b0 : ((rd l0 x5_1) == (rd l1 x5_1)) = false := beq_eq_false_iff_ne.mpr c9
          have c9b1 : ((rd l0 x5_1) != (rd l1 x5_1)) = true := bne_iff_ne.mpr c9
          obtain rfl := Option.some.inj H
          have p159 : 0 ≤ (x5_1 : Int) := of_decide_eq_true (by first | (with_reducible assumption) | assumption)
          have q159 : x5_1 < (l0.length : Int) := of_decide_eq_true (by first | (with_reducible assumption) | assumption)
          obtain ⟨ad159, e159, hx159_0⟩ := Kd.at_int HR0.out x5_1 p159 q159
          cases e159
          replace p159 := eq_true p159
          replace q159 := eq_true q159
          have p160 : 0 ≤ (x5_1 : Int) := of_decide_eq_true (by first | (with_reducible assumption) | assumption)
          have q160 : x5_1 < (l1.length : Int) := of_decide_eq_true (by first | (with_reducible assumption) | assumption)
          obtain ⟨ad160, e160, hx160_0⟩ := Kd.at_int HR1.out x5_1 p160 q160
          cases e160
          replace p160 := eq_true p160
          replace q160 := eq_true q160
          have p161 : 0 ≤ (x5_1 : Int) := of_decide_eq_true (by first | (with_reducible assumption) | assumption)
          have q161 : x5_1 < (l0.length : Int) := of_decide_eq_true (by first | (with_reducible assumption) | assumption)
          obtain ⟨ad161, e161, hx161_0⟩ := Kd.at_int HR0.out x5_1 p161 q161
          obtain rfl : ad159 = ad161 := (by injection e161)
          replace p161 := eq_true p161
          replace q161 := eq_true q161
          have p162 : 0 ≤ (x5_1 : Int) := of_decide_eq_true (by first | (with_reducible assumption) | assumption)
          have q162 : x5_1 < (l1.length : Int) := of_decide_eq_true (by first | (with_reducible assumption) | assumption)
          obtain ⟨ad162, e162, hx162_0⟩ := Kd.at_int HR1.out x5_1 p162 q162
          obtain rfl : ad160 = ad162 := (by injection e162)
          replace p162 := eq_true p162
          replace q162 := eq_true q162
          go_wp2
          repeat (go_quiet (fail); try go_wp2)
          go_ret
          exact ⟨by first | rfl | (simp; done) | (simp [*]; done), by repeat (first | exact Drawn0.refl _ | apply Drawn0.step)⟩
        ·rw [if_neg c8] at H
         exact absurd H (by simp)
       ·rw [if_neg c7] at H
        exact absurd H (by simp)
      ·rw [if_neg c6] at H
       exact absurd H (by simp)
     ·replace c5 := Bool.eq_false_iff.mpr c5
      subst c5
      have H1 : (some (decide ((l0.length : Int) < (l1.length : Int)))) = some r := by rw [if_neg (show ¬ (false = true) by decide)] at H; exact H
      clear H
      have H := H1
      clear H1
      obtain rfl := Option.some.inj H
      go_wp2
      repeat (go_quiet (fail); try go_wp2)
      go_ret
      exact ⟨by first | rfl | (simp; done) | (simp [*]; done), by repeat (first | exact Drawn0.refl _ | apply Drawn0.step)⟩

/-! ### tattingref1_Same: function 38 -/
def tattingref1_Same.f (l0 : List Int) (l1 : List Int) : Option (Bool) := some ((strOfNums l0).toList == (strOfNums l1).toList)
set_option maxHeartbeats 8000000 in
set_option maxRecDepth 100000 in
theorem tattingref1_Same.calls (A0 : Option Addr) (c0 : Nat) (l0 : List Int) (A1 : Option Addr) (c1 : Nat) (l1 : List Int) (r : Bool) (w : World) (hr0 : Kd.C (Kd.int .u8) w A0 l0.length l0) (hc0 : l0.length ≤ c0) (hr1 : Kd.C (Kd.int .u8) w A1 l1.length l1) (hc1 : l1.length ≤ c1) (h : tattingref1_Same.f l0 l1 = some r) :
  Calls Try.prog 38 #[.slice A0 l0.length c0, .slice A1 l1.length c1] w fun e w' => e = .returned (.bool r) ∧ Drawn0 w w' := by
 have HR0 := Aside0.mk hr0
 have HC0 := Aside0.mk hc0
 clear hr0 hc0
 have HR1 := Aside0.mk hr1
 have HC1 := Aside0.mk hc1
 clear hr1 hc1
 have H : (some ((strOfNums l0).toList == (strOfNums l1).toList)) = some r := h
 clear h
 obtain rfl := Option.some.inj H
 have hcv3 := Kd.C_string (P := Try.prog) (A := A0) (c := c0) Try.underlying22 Try.underlying5 Try.underlying9 HR0.out
 have hcvd4 := fun nd_ => Kd.C_string (P := Try.prog) (A := A0) (c := c0) Try.underlying22 Try.underlying5 Try.underlying9 (Kd.C_drewN HR0.out nd_)
 have hcv5 := Kd.C_string (P := Try.prog) (A := A1) (c := c1) Try.underlying22 Try.underlying5 Try.underlying9 HR1.out
 have hcvd6 := fun nd_ => Kd.C_string (P := Try.prog) (A := A1) (c := c1) Try.underlying22 Try.underlying5 Try.underlying9 (Kd.C_drewN HR1.out nd_)
 go_enter Try.func38, Try.ntmps38
 go_wp2
 go_ret
 exact ⟨by first | rfl | (simp; done) | (simp [*]; done), by repeat (first | exact Drawn0.refl _ | apply Drawn0.step)⟩

end Go.Proofs.Ytlodaoijokfblaa.PPatchMade
