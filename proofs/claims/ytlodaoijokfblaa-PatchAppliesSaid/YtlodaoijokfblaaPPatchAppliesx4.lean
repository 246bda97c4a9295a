/- What the given program's functions come to, each a Lean function and the walk that shows it: no condition beside those that each theorem names. -/
import Derived.Test.YtlodaoijokfblaaPPatchAppliesx0
import Derived.Test.YtlodaoijokfblaaPPatchAppliesx1
import Derived.Test.YtlodaoijokfblaaPPatchAppliesx2
import Derived.Test.YtlodaoijokfblaaPPatchAppliesx3
namespace Go.Proofs.Ytlodaoijokfblaa.PPatchApplies
open Go.RowKit Go.Proofs.YtlodaoijokfblaaW.PrintWords Go.Proofs.YtlodaoijokfblaaW.PrintLast Go.Proofs.YtlodaoijokfblaaW.PrintMore
attribute [local go_sem] max2_int min2_int max_two min_two max_three min_three max_four min_four   -- for this text's walks alone
set_option linter.unusedVariables false
set_option linter.unusedSimpArgs false

/-! ### tattingref24_Apply: function 14, by hand -/
def tattingref24_Apply.l0 : List S28 → List (List Int) → Nat → List (List Int) → Option (List (List Int) × Int)
 | [], a, i, b => if i ≤ a.length ∧ b.length + a.length < 100000000 then some (b ++ a.drop i, 0) else none
 | h :: s, a, i, b => if 0 ≤ h.f0 then (if (a.length : Int) < h.f0 then some ([], 5) else if a.length - h.f0.toNat < h.f1.length then some ([], 5) else if tokEqs ((a.drop h.f0.toNat).take h.f1.length) h.f1 = true then (if i ≤ h.f0.toNat ∧ b.length + a.length + h.f2.length < 100000000 then tattingref24_Apply.l0 s a (h.f0.toNat + h.f1.length) (b ++ (a.take h.f0.toNat).drop i ++ h.f2) else none) else some ([], 5)) else none
def tattingref24_Apply.f (k : Nat) (s : List S28) (a : List (List Int)) : Option (List (List Int) × Int) := (tattingref24_Good.f k s).bind fun g => if g = true then tattingref24_Apply.l0 s a 0 [] else some ([], 1)
theorem tattingref24_Apply.mono : ∀ a0 a1 k, LeO (tattingref24_Apply.f k a0 a1) (tattingref24_Apply.f (k + 1) a0 a1) := fun _ _ _ => LeO.bind (tattingref24_Good.mono _ _) fun _ => LeO.refl _
theorem tokEqs_step {a b : List (List Int)} {m x : Nat} (hx : x < b.length) (hm : m + b.length ≤ a.length) : tokEqs (((a.drop m).take b.length).drop x) (b.drop x) = (((strOfNums (a.getD (m + x) [])).toList == (strOfNums (b.getD x [])).toList) && tokEqs (((a.drop m).take b.length).drop (x + 1)) (b.drop (x + 1))) := by
 have hl : x < ((a.drop m).take b.length).length := by simp; omega
 rw [List.drop_eq_getElem_cons hl, List.drop_eq_getElem_cons hx, tokEqs]
 simp [List.getD_eq_getElem?_getD, show m + x < a.length by omega, hx]
set_option maxHeartbeats 8000000 in
set_option maxRecDepth 100000 in
theorem tattingref24_Apply.calls (k : Nat) (P0_ : Nat → Prop) (A0 : Option Addr) (c0 : Nat) (l0 : List S28) (P1_ : Nat → Prop) (A1 : Option Addr) (c1 : Nat) (l1 : List (List Int)) (r1 : List (List Int)) (r2 : Int) (w : World) (hs0 : Kd.V k28 28 w w.heap.size (fun k_ => P0_ k_) (.slice A0 l0.length c0) l0) (hs1 : Kd.V (Kd.slice 5 (Kd.int .u8)) 22 w w.heap.size (fun k_ => P1_ k_) (.slice A1 l1.length c1) l1) (h : tattingref24_Apply.f k l0 l1 = some (r1, r2)) :
  Calls Try.prog 14 #[.slice A0 l0.length c0, .slice A1 l1.length c1] w fun e w' => ∃ v0_ : Value, e = .returned (.tuple #[v0_, .int .i64 r2]) ∧ Kd.N (Kd.slice 5 (Kd.int .u8)) 22 w' w.heap.size (fun k_ => ((P0_ k_ ∨ P1_ k_) ∨ w.heap.size ≤ k_)) v0_ r1 ∧ Below w.heap.size w w' := by
 have HR0 := Aside0.mk (Kd.V_reads' hs0).2.2
 have HC0 := Aside0.mk (Kd.V_reads' hs0).2.1
 have HR1 := Aside0.mk (Kd.V_reads' hs1).2.2
 have HC1 := Aside0.mk (Kd.V_reads' hs1).2.1
 have HS0 := Aside0.mk (Kd.V_bound hs0)
 have HS1 := Aside0.mk (Kd.V_bound hs1)
 have hm0 := Kd.C_max HR0.out
 have hm1 := Kd.C_max HR1.out
 have HB := Aside0.mk (Below.refl w.heap.size w)
 clear hs0 hs1
 have hu28 := Try.underlying28
 unfold tattingref24_Apply.f at h
 rw [Option.bind_eq_some_iff] at h
 obtain ⟨g, hg, h⟩ := h
 have AG := Aside0.mk hg
 clear hg
 cases g with
 | false =>
  rw [if_neg (by decide)] at h
  simp only [Option.some.injEq, Prod.mk.injEq] at h
  obtain ⟨rfl, rfl⟩ := h
  go_enter Try.func14, Try.ntmps14
  try dsimp only [List.append]
  go_wp2_with (go_at_call 26; (with_reducible refine (tattingref24_Good.calls k _ _ l0 false _ HR0.out HC0.out AG.out).mono ?_); rintro e w1 ⟨rfl, hb⟩; have n0_ := Aside0.mk (below_step HB.out hb); clear HB hb; have HB := n0_; clear n0_)
  go_ret2
  exact ⟨_, rfl, Kd.N_nil _ _ _ _ _, HB.out⟩
 | true =>
  rw [if_pos rfl] at h
  have H := Aside0.mk h
  clear h
  go_enter Try.func14, Try.ntmps14
  try dsimp only [List.append]
  go_wp2_with (go_at_call 26; (with_reducible refine (tattingref24_Good.calls k _ _ l0 true _ HR0.out HC0.out AG.out).mono ?_); rintro e w1 ⟨rfl, hb⟩; have n0_ := Aside0.mk (below_step HB.out hb); clear HB hb; have HB := n0_; clear n0_)
  go_loopw [6, 7, 8] (fun s6 s7 ix wr => ∃ (j i : Nat) (b : List (List Int)) (vb : Value), j ≤ l0.length ∧ ix = .int .i64 j ∧ s7 = .int .i64 i ∧ vb = s6 ∧ Aside0 (tattingref24_Apply.l0 (l0.drop j) l1 i b = some (r1, r2)) ∧ Aside0 (Kd.N (Kd.slice 5 (Kd.int .u8)) 22 wr w.heap.size (fun k_ => ((P0_ k_ ∨ P1_ k_) ∨ w.heap.size ≤ k_)) vb b) ∧ Aside0 (Below w.heap.size w wr)) (fun _ _ ix _ => l0.length - (intOf ix).toNat)
  case atStart => exact ⟨0, 0, [], _, Nat.zero_le _, rfl, rfl, rfl, H, ⟨Kd.N_nil _ _ _ _ _⟩, HB⟩
  case round =>
   clear H HB
   obtain ⟨j, i, b, vb, hj, rfl, rfl, rfl, H, HN, HB⟩ := hrel
   by_cases hjl : j < l0.length
   ·obtain ⟨ad, B1, d1, B2, d2, rfl, hx0, hx1, hx2, hl1, hi1, hl2, hi2⟩ := at_T28 HR0.out (j : Int) (by omega) (by omega)
    obtain ⟨ce, hce, hMe, hcc⟩ := Kd.V_get HS0.out z28 (j : Int) (by omega) (by omega)
    obtain ⟨ua1, uc1, ua2, uc2, rfl, ul1, ge1, ul2, ge2⟩ := k28_openF hMe
    have hv2 := hcc 2 _ rfl
    rw [add_field _ _ 2 (by omega)] at hv2
    replace hv2 := Option.some.inj (hv2.symm.trans hx2)
    injection hv2 with hva_ hvn_ hvc_
    have e0 : rd_T28 l0 (j : Int) = l0.getD j z28 := rfl
    have ge2 : Kd.F (Kd.slice 5 (Kd.int .u8)) w _ B2 (rd_T28 l0 (j : Int)).f2.length (rd_T28 l0 (j : Int)).f2 := hva_ ▸ ge2
    clear hcc hce hMe ul1 ge1 ul2 hva_ hvn_ hvc_
    simp only [Int.toNat_natCast] at hx0 hx1 hx2
    have h := H.out
    rw [drop_at28 hjl, ← e0] at h
    generalize rd_T28 l0 (j : Int) = x at hx0 hx1 hx2 hl1 hi1 hl2 hi2 h ge2
    obtain ⟨f0, f1, f2⟩ := x
    simp only at hx0 hx1 hx2 hl1 hi1 hl2 hi2 h ge2
    rw [tattingref24_Apply.l0] at h
    simp only at h
    by_cases h0 : 0 ≤ f0
    ·rw [if_pos h0] at h
     obtain ⟨m, rfl⟩ := Int.eq_ofNat_of_zero_le h0
     rw [Int.toNat_natCast] at h
     have hx0 := pw_cell_below HB.out hx0
     have hx1 := pw_cell_below HB.out hx1
     have hx2 := pw_cell_below HB.out hx2
     have HI1 := Aside0.mk hi1
     have HL1 := Aside0.mk hl1
     have HF2 := Aside0.mk ge2
     have HL2 := Aside0.mk hl2
     have AH := Aside0.mk h
     have hmf1 := Kd.C_max hi1
     clear hi1 hi2 hl1 hl2 h H e0 h0 ge2
     go_upto_region 9 with (first
      | ((with_reducible refine gate_dst (N := 9) rfl ?_); refine box_event ?hg (N := 9) ?hd (cs := #[.int .i64 0, .slice none 0 0, .slice none 0 0]) (t := 28) ?hr ?_; (case hd => rfl); (case hg => rfl); (case hr => first | (go_simp; done) | (go_simp; rfl)); intro gb hg w8 hbox hb; have n0_ := Aside0.mk (below_step HB.out hb); have BK := Aside0.mk hbox; have n1_ := Aside0.mk (Kd.N_mono (ok' := fun k_ => ((P0_ k_ ∨ P1_ k_) ∨ w.heap.size ≤ k_) ∧ k_ ≠ gb) (Kd.N_below (Kd.N_bound HN.out) hb) (fun k_ hk => ⟨hk.1, by have := hk.2; omega⟩)); have HBG := Aside0.mk (show w.heap.size ≤ gb by rw [hg]; exact HB.out.size); clear HB HN hb hbox hg; have HB := n0_; have HN := n1_; clear n0_ n1_; have hcz0 := (blk_cell BK.out 0).trans rfl; have hcz1 := (blk_cell BK.out 1).trans rfl; have hcz2 := (blk_cell BK.out 2).trans rfl; have hfz0 := blk_frozen BK.out 0; have hfz1 := blk_frozen BK.out 1; have hfz2 := blk_frozen BK.out 2))
     have hO2 := Kd.N_far (p := ⟨gb, 0, none⟩) HN.out (fun _ hk => hk.2) (.int .i64 m)
     have hO3 := Kd.N_far (p := ⟨gb, 1, none⟩) hO2 (fun _ hk => hk.2) (.slice B1 f1.length d1)
     have n0_ := Aside0.mk (Kd.N_far (p := ⟨gb, 2, none⟩) hO3 (fun _ hk => hk.2) (.slice B2 f2.length d2))
     have n1_ := Aside0.mk (blk_put (cs' := #[.int .i64 m, .slice B1 f1.length d1, .slice B2 f2.length d2]) (blk_put (cs' := #[.int .i64 m, .slice B1 f1.length d1, .slice none 0 0]) (blk_put (cs' := #[.int .i64 m, .slice none 0 0, .slice none 0 0]) BK.out 0 (.int .i64 m) rfl) 1 (.slice B1 f1.length d1) rfl) 2 (.slice B2 f2.length d2) rfl)
     have n2_ := Aside0.mk (below_set (j := 2) (v := .slice B2 f2.length d2) (below_set (j := 1) (v := .slice B1 f1.length d1) (below_set (j := 0) (v := .int .i64 m) HB.out HBG.out) HBG.out) HBG.out)
     clear HN BK HB hO2 hO3 hcz0 hcz1 hcz2 hfz0 hfz1 hfz2
     have HN := n0_
     have BK := n1_
     have HB := n2_
     clear n0_ n1_ n2_
     generalize ((w8.setCell ⟨gb, 0, none⟩ (.int .i64 m)).setCell ⟨gb, 1, none⟩ (.slice B1 f1.length d1)).setCell ⟨gb, 2, none⟩ (.slice B2 f2.length d2) = wx at HN BK HB ⊢
     have hcz0 : wx.cell? ⟨gb, 0, none⟩ = some (.int .i64 m) := (blk_cell BK.out 0).trans rfl
     have hcz1 : wx.cell? ⟨gb, 1, none⟩ = some (.slice B1 f1.length d1) := (blk_cell BK.out 1).trans rfl
     have hcz2 : wx.cell? ⟨gb, 2, none⟩ = some (.slice B2 f2.length d2) := (blk_cell BK.out 2).trans rfl
     have h := AH.out
     by_cases c1 : (l1.length : Int) < m
     ·rw [if_pos c1] at h
      simp only [Option.some.injEq, Prod.mk.injEq] at h
      obtain ⟨rfl, rfl⟩ := h
      have d1 : decide (l1.length < m) = true := decide_eq_true (by omega)
      go_wp2
      go_ret2
      exact ⟨_, rfl, Kd.N_nil _ _ _ _ _, HB.out⟩
     ·rw [if_neg c1] at h
      have c1b : decide (l1.length < m) = false := decide_eq_false (by omega)
      by_cases c2 : l1.length - m < f1.length
      ·rw [if_pos c2] at h
       simp only [Option.some.injEq, Prod.mk.injEq] at h
       obtain ⟨rfl, rfl⟩ := h
       have c2b : decide ((l1.length : Int) - (m : Int) < (f1.length : Int)) = true := decide_eq_true (by omega)
       go_wp2
       go_ret2
       exact ⟨_, rfl, Kd.N_nil _ _ _ _ _, HB.out⟩
      ·rw [if_neg c2] at h
       have c2b : decide ((l1.length : Int) - (m : Int) < (f1.length : Int)) = false := decide_eq_false (by omega)
       have hlm : m + f1.length ≤ l1.length := by omega
       generalize hE : tokEqs ((l1.drop m).take f1.length) f1 = E at h
       have AE := Aside0.mk (show tokEqs (((l1.drop m).take f1.length).drop 0) (f1.drop 0) = E from hE)
       have AH := Aside0.mk h
       clear hE h c1 c2
       go_wp2
       go_loopw [10] (fun ix wr => ∃ x : Nat, x ≤ f1.length ∧ ix = .int .i64 x ∧ Aside0 (tokEqs (((l1.drop m).take f1.length).drop x) (f1.drop x) = E) ∧ Drawn0 wx wr) (fun ix _ => f1.length - (intOf ix).toNat)
       case atStart => exact ⟨0, Nat.zero_le _, rfl, AE, Drawn0.refl _⟩
       case round =>
        clear AE
        obtain ⟨x, hx, rfl, AE, ⟨m1, rfl⟩⟩ := hrel
        by_cases hxl : x < f1.length
        ·obtain ⟨ad1, At, ct, eA, hy, hly, hiy⟩ := at_L1 HR1.out ((m : Int) + (x : Int)) (by omega) (by omega)
         obtain ⟨ad2, Au, cu, eB, hz, hlz, hiz⟩ := at_L1 HI1.out (x : Int) (by omega) (by omega)
         subst eA
         subst eB
         have hE := AE.out
         rw [tokEqs_step hxl hlm] at hE
         have eA : rd_L1 l1 ((m : Int) + (x : Int)) = l1.getD (m + x) [] := by unfold rd_L1; rw [show ((m : Int) + (x : Int)).toNat = m + x by omega]
         have eB : rd_L1 f1 (x : Int) = f1.getD x [] := rfl
         rw [← eA, ← eB] at hE
         have t1 : ((m : Int) + (x : Int)).toNat = m + x := by omega
         rw [t1] at hy
         simp only [Int.toNat_natCast] at hz
         generalize rd_L1 l1 ((m : Int) + (x : Int)) = ta at hy hly hiy hE
         generalize rd_L1 f1 (x : Int) = tb at hz hlz hiz hE
         have hy := pw_cell_below HB.out hy
         have hz := pw_cell_below HB.out hz
         have HIY := Aside0.mk (Kd.C_below hiy HB.out)
         have HIZ := Aside0.mk (Kd.C_below hiz HB.out)
         have hcv1 := Kd.C_string (P := Try.prog) (A := At) (c := ct) Try.underlying22 Try.underlying5 Try.underlying9 HIY.out
         have hcvd1 := fun nd_ => Kd.C_string (P := Try.prog) (A := At) (c := ct) Try.underlying22 Try.underlying5 Try.underlying9 (Kd.C_drewN HIY.out nd_)
         have hcv2 := Kd.C_string (P := Try.prog) (A := Au) (c := cu) Try.underlying22 Try.underlying5 Try.underlying9 HIZ.out
         have hcvd2 := fun nd_ => Kd.C_string (P := Try.prog) (A := Au) (c := cu) Try.underlying22 Try.underlying5 Try.underlying9 (Kd.C_drewN HIZ.out nd_)
         clear hiy hiz hly hlz eA eB t1
         have i0 : (0 : Int) ≤ (m : Int) + (x : Int) := by omega
         have i1 : (m : Int) + (x : Int) < (l1.length : Int) := by omega
         by_cases c7 : (strOfNums ta).toList = (strOfNums tb).toList
         ·have c7b0 : ((strOfNums ta).toList == (strOfNums tb).toList) = true := beq_iff_eq.mpr c7
          have c7b1 : ((strOfNums ta).toList != (strOfNums tb).toList) = false := bne_eq_false_iff_eq.mpr c7
          rw [c7b0, Bool.true_and] at hE
          have AE := Aside0.mk hE
          clear hE c7
          go_wp2
          repeat (go_quiet (fail); try go_wp2)
          go_roundw
          case rel => exact ⟨x + 1, by omega, by go_num, AE, by repeat (first | exact Drawn0.refl _ | apply Drawn0.step)⟩
          case measure => simp [intOf]; omega
         ·have c7b0 : ((strOfNums ta).toList == (strOfNums tb).toList) = false := beq_eq_false_iff_ne.mpr c7
          have c7b1 : ((strOfNums ta).toList != (strOfNums tb).toList) = true := bne_iff_ne.mpr c7
          rw [c7b0, Bool.false_and] at hE
          have h := AH.out
          rw [← hE, if_neg (by decide)] at h
          simp only [Option.some.injEq, Prod.mk.injEq] at h
          obtain ⟨rfl, rfl⟩ := h
          clear hE c7
          go_wp2
          repeat (go_quiet (fail); try go_wp2)
          go_ret2
          exact ⟨_, rfl, Kd.N_nil _ _ _ _ _, by repeat (first | exact HB.out | apply drewN_below | apply below_drew)⟩
        ·obtain rfl : x = f1.length := by omega
         have hE := AE.out
         rw [List.drop_eq_nil_of_le (by rw [List.length_take]; omega), List.drop_length] at hE
         have h := AH.out
         rw [← hE, if_pos (show tokEqs [] [] = true from rfl)] at h
         by_cases c3 : i ≤ m ∧ b.length + l1.length + f2.length < 100000000
         ·rw [if_pos c3] at h
          obtain ⟨c4, c5⟩ := c3
          have AH := Aside0.mk h
          clear h hE AE
          go_upto_region 16 with fail
          have n0_ := Aside0.mk (below_drew (drewN_below HB.out m1))
          have n1_ := Aside0.mk (Kd.N_below HN.out (below_drew (drewN_below (Below.refl wx.heap.size wx) m1)))
          have n2_ := Aside0.mk (show (wx.drewN m1).drew.heap[gb]? = _ from BK.out)
          clear HB HN BK hcz0 hcz1 hcz2
          have HB := n0_
          have HN := n1_
          have BK := n2_
          clear n0_ n1_ n2_
          generalize wx.drewN m1 = wy at HB HN BK ⊢
          have hcz0 : wy.drew.cell? ⟨gb, 0, none⟩ = some (.int .i64 m) := (blk_cell BK.out 0).trans rfl
          have hcz2 : wy.drew.cell? ⟨gb, 2, none⟩ = some (.slice B2 f2.length d2) := (blk_cell BK.out 2).trans rfl
          obtain ⟨A3, hcutr, hc3, hr3⟩ := cut_row (A := A1) HC1.out (lo := i) (hi := m) c4 (by omega)
          have HF3 := Aside0.mk (Kd.F_imp (Kd.V_F HS1.out) (fun W' hC => hr3 W' hC))
          have hT : ((l1.take m).drop i).length ≤ l1.length := by simp; omega
          clear hr3 hc3
          have HGN := Aside0.mk (show some gb ≠ (vb : Value).ownBlock from fun e_ => (HN.out.1 gb e_.symm).2 rfl)
          have HOB := Aside0.mk (Kd.N_base HN.out)
          have HGL := Aside0.mk (show gb < wy.drew.heap.size from blk_lt BK.out)
          have HTL := Aside0.mk hT
          have HTM := Aside0.mk c5
          clear hT
          generalize (l1.take m).drop i = T at hcutr HF3 AH HTL
          go_cut [6] (fun s6 wr => ∃ vb', s6 = vb' ∧ Aside0 (Kd.N (Kd.slice 5 (Kd.int .u8)) 22 wr w.heap.size (fun k_ => ((P0_ k_ ∨ P1_ k_) ∨ w.heap.size ≤ k_)) vb' (b ++ T ++ f2)) ∧ Aside0 (Below w.heap.size w wr) ∧ Aside0 (wr.heap[gb]? = some (.cells #[.int .i64 m, .slice B1 f1.length d1, .slice B2 f2.length d2] 28 (0, 0))))
          case first =>
           go_region_held3 (fun w' => w'.cell? ⟨gb, 0, none⟩ = some (.int .i64 m) ∧ w'.cell? ⟨gb, 2, none⟩ = some (.slice B2 f2.length d2)) (first | go_keep | exact ⟨(blk_cell BK2.out 0).trans rfl, (blk_cell BK2.out 2).trans rfl⟩ | exact ⟨(blk_cell BK1.out 0).trans rfl, (blk_cell BK1.out 2).trans rfl⟩) (first
            | (refine Kd.N_append_rows_step (Kd.slice 5 (Kd.int .u8)) (w0 := w) w.heap.size (by rfl) (.tmp 62) (.tmp 67) 23 22 (.slice none 0 0) 24 rfl Try.underlying23 info22_ rfl (by decide) (by omega) vb b T A3 T.length (c1 - i) (fun k_ => ((P0_ k_ ∨ P1_ k_) ∨ w.heap.size ≤ k_) ∧ k_ ≠ gb) (fun k_ => P1_ k_ ∧ k_ < w.heap.size) rfl rfl ?aO ?aP ?aK ?aF ?aB ?aS ?aL ?_; (case aO => exact HN.out); (case aP => exact Kd.F_below HF3.out HB.out); (case aK => exact fun k_ hk => ⟨⟨.inl (.inr hk.1), by have := HBG.out; have := hk.2; omega⟩, fun e_ => by have := HOB.out k_ e_.symm; have := hk.2; omega⟩); (case aF => exact fun k_ hk => ⟨.inr (Nat.le_trans HB.out.size hk), by have := HGL.out; omega⟩); (case aB => exact HB.out); (case aS => exact HB.out.size); (case aL => have := HTM.out; have := HTL.out; omega); intro v3 w6 ho hb hg hat; have BK1 := Aside0.mk (blk_grown BK.out hg HGN.out); have HB1 := Aside0.mk hb; have HN1 := Aside0.mk ho; have HOB1 := Aside0.mk (Kd.N_base ho); have HGN1 := Aside0.mk (show some gb ≠ (v3 : Value).ownBlock from fun e_ => (ho.1 gb e_.symm).2 rfl); have HGL1 := Aside0.mk (show gb < w6.heap.size from blk_lt BK1.out); (try clear ho); (try clear hb); (try clear hg); (try clear hat))
            | (refine Kd.N_append_rows_step (Kd.slice 5 (Kd.int .u8)) (w0 := w) w.heap.size (by rfl) (.tmp 68) (.tmp 70) 23 22 (.slice none 0 0) 24 rfl Try.underlying23 info22_ rfl (by decide) (by omega) v3 (b ++ T) f2 B2 f2.length d2 (fun k_ => ((P0_ k_ ∨ P1_ k_) ∨ w.heap.size ≤ k_) ∧ k_ ≠ gb) (fun k_ => P0_ k_ ∧ k_ < w.heap.size) rfl rfl ?aO ?aP ?aK ?aF ?aB ?aS ?aL ?_; (case aO => exact HN1.out); (case aP => exact Kd.F_below HF2.out HB1.out); (case aK => exact fun k_ hk => ⟨⟨.inl (.inl hk.1), by have := HBG.out; have := hk.2; omega⟩, fun e_ => by have := HOB1.out k_ e_.symm; have := hk.2; omega⟩); (case aF => exact fun k_ hk => ⟨.inr (Nat.le_trans HB1.out.size hk), by have := HGL1.out; omega⟩); (case aB => exact HB1.out); (case aS => exact HB1.out.size); (case aL => have := HTM.out; have := HTL.out; rw [List.length_append]; omega); intro v4 w7 ho hb hg hat; have BK2 := Aside0.mk (blk_grown BK1.out hg HGN1.out); have HB2 := Aside0.mk hb; have HN2 := Aside0.mk ho; (try clear ho); (try clear hb); (try clear hg); (try clear hat)))
           go_wp2_with fail
           go_meet
           exact ⟨_, rfl, ⟨Kd.N_mono HN2.out (fun _ hk => hk.1)⟩, HB2, BK2⟩
          case rest =>
           clear HB HN BK HGN HOB HGL hcz0 hcz2
           obtain ⟨vb', rfl, HN, HB, BK⟩ := hcut
           have hcz0 : wc.cell? ⟨gb, 0, none⟩ = some (.int .i64 m) := (blk_cell BK.out 0).trans rfl
           have hcz1 : wc.cell? ⟨gb, 1, none⟩ = some (.slice B1 f1.length d1) := (blk_cell BK.out 1).trans rfl
           go_wp2
           go_roundw
           case rel => exact ⟨j + 1, m + f1.length, b ++ T ++ f2, _, by omega, by go_num, by first | rfl | go_num, rfl, AH, HN, HB⟩
           case measure => simp [intOf]; omega
         ·rw [if_neg c3] at h; cases h
    ·rw [if_neg h0] at h; cases h
   ·obtain rfl : j = l0.length := by omega
    have h := H.out
    rw [List.drop_length, tattingref24_Apply.l0] at h
    by_cases c3 : i ≤ l1.length ∧ b.length + l1.length < 100000000
    ·rw [if_pos c3] at h
     obtain ⟨c4, c5⟩ := c3
     simp only [Option.some.injEq, Prod.mk.injEq] at h
     obtain ⟨rfl, rfl⟩ := h
     clear H
     obtain ⟨A3, hcutr, hc3, hr3⟩ := cut_end (A := A1) HC1.out (lo := i) c4
     have HF3 := Aside0.mk (Kd.F_imp (Kd.V_F HS1.out) (fun W' hC => hr3 W' hC))
     have hT : (l1.drop i).length ≤ l1.length := by simp
     have HOB := Aside0.mk (Kd.N_base HN.out)
     have HTL := Aside0.mk hT
     have HTM := Aside0.mk c5
     clear hT hr3 hc3
     generalize hTT : l1.drop i = T at hcutr HF3 HTL
     have HTT := Aside0.mk hTT
     clear hTT
     go_wp2_with (first
      | ((with_reducible refine gate_builtin (b := .append) (xs := #[.tmp 78, .tmp 81]) rfl ?_); at_builtin; (refine Kd.N_append_rows (Kd.slice 5 (Kd.int .u8)) (w0 := w) w.heap.size rfl (.tmp 78) (.tmp 81) 23 22 (.slice none 0 0) 24 rfl Try.underlying23 info22_ rfl (by decide) (by omega) vb b T A3 T.length (c1 - i) (fun k_ => ((P0_ k_ ∨ P1_ k_) ∨ w.heap.size ≤ k_)) (fun k_ => P1_ k_ ∧ k_ < w.heap.size) rfl rfl HN.out (Kd.F_below HF3.out HB.out) (fun k_ hk => ⟨.inl (.inr hk.1), fun e_ => by have := HOB.out k_ e_.symm; have := hk.2; omega⟩) (fun k_ hk => .inr (Nat.le_trans HB.out.size hk)) HB.out HB.out.size (by have := HTM.out; have := HTL.out; omega) ?_; intro v3 w6 ho hb hg hat; have HB1 := Aside0.mk hb; have HN1 := Aside0.mk ho; (try clear ho); (try clear hb); (try clear hg); (try clear hat))))
     go_ret2
     rw [HTT.out]
     exact ⟨_, rfl, HN1.out, HB1.out⟩
    ·rw [if_neg c3] at h; cases h

/-! ### tattingref1_SameTokens: function 15 -/
def tattingref1_SameTokens.l0 : Nat → List (List Int) → List (List Int) → Int → Option (Bool)
 | 0, _, _, _ => none
 | k + 1, x0, x1, x5 => if x5 < (x0.length : Int) then (if 0 ≤ x5 then (if x5 < (x1.length : Int) then (if (strOfNums (rd_L1 x0 x5)).toList = (strOfNums (rd_L1 x1 x5)).toList then (tattingref1_SameTokens.l0 k x0 x1 (wrap64 (x5 + 1))) else (some false)) else (none)) else (none)) else (some true)
def tattingref1_SameTokens.f (k : Nat) (l0 : List (List Int)) (l1 : List (List Int)) : Option (Bool) := if (l0.length : Int) = (l1.length : Int) then (tattingref1_SameTokens.l0 k l0 l1 0) else (some false)
theorem tattingref1_SameTokens.mono_l : ∀ k, (∀ y0 y1 y2, LeO (tattingref1_SameTokens.l0 k y0 y1 y2) (tattingref1_SameTokens.l0 (k + 1) y0 y1 y2))
 | 0 => fun _ _ _ r h => by simp [tattingref1_SameTokens.l0] at h
 | k + 1 => by
  have ih0 := tattingref1_SameTokens.mono_l k
  ·intro y0 y1 y2
   unfold tattingref1_SameTokens.l0
   repeat' first
   | (with_reducible exact ih0 _ _ _)
   | (with_reducible exact LeO.refl _)
   | (with_reducible exact LeO.none _)
   | (with_reducible refine LeO.ite ?_ ?_)
   | (with_reducible refine LeO.bind ?_ (fun _ => ?_))
   | exact ih0 _ _ _
   | exact LeO.none _
   | refine LeO.ite ?_ ?_
   | refine LeO.bind ?_ (fun _ => ?_)
theorem tattingref1_SameTokens.mono : ∀ a0 a1 k, LeO (tattingref1_SameTokens.f k a0 a1) (tattingref1_SameTokens.f (k + 1) a0 a1) := by
 intro a0 a1 k
 have ih0 := tattingref1_SameTokens.mono_l k
 unfold tattingref1_SameTokens.f
 repeat' first
   | (with_reducible exact ih0 _ _ _)
   | (with_reducible exact LeO.refl _)
   | (with_reducible exact LeO.none _)
   | (with_reducible refine LeO.ite ?_ ?_)
   | (with_reducible refine LeO.bind ?_ (fun _ => ?_))
   | exact ih0 _ _ _
   | exact LeO.none _
   | refine LeO.ite ?_ ?_
   | refine LeO.bind ?_ (fun _ => ?_)
set_option maxHeartbeats 8000000 in
set_option maxRecDepth 100000 in
theorem tattingref1_SameTokens.calls (k : Nat) (A0 : Option Addr) (c0 : Nat) (l0 : List (List Int)) (A1 : Option Addr) (c1 : Nat) (l1 : List (List Int)) (r : Bool) (w : World) (hr0 : Kd.C (Kd.slice 5 (Kd.int .u8)) w A0 l0.length l0) (hc0 : l0.length ≤ c0) (hr1 : Kd.C (Kd.slice 5 (Kd.int .u8)) w A1 l1.length l1) (hc1 : l1.length ≤ c1) (h : tattingref1_SameTokens.f k l0 l1 = some r) :
  Calls Try.prog 15 #[.slice A0 l0.length c0, .slice A1 l1.length c1] w fun e w' => e = .returned (.bool r) ∧ Drawn0 w w' := by
 have HR0 := Aside0.mk hr0
 have HC0 := Aside0.mk hc0
 clear hr0 hc0
 have HR1 := Aside0.mk hr1
 have HC1 := Aside0.mk hc1
 clear hr1 hc1
 have H : (if (l0.length : Int) = (l1.length : Int) then (tattingref1_SameTokens.l0 k l0 l1 0) else (some false)) = some r := h
 clear h
 by_cases c3 : (l0.length : Int) = (l1.length : Int)
 ·rw [if_pos c3] at H
  have c3b0 : ((l0.length : Int) == (l1.length : Int)) = true := beq_iff_eq.mpr c3
  have c3b1 : ((l0.length : Int) != (l1.length : Int)) = false := bne_eq_false_iff_eq.mpr c3
  have c3b2 : (l0.length == l1.length) = true := by first | simpa using c3 | (simp at c3 ⊢; omega)
  clear c3
  have H' := Aside0.mk H
  clear H
  go_enter Try.func15, Try.ntmps15
  go_wp2
  repeat (go_quiet (fail); try go_wp2)
  go_loopg [5] k (fun kq v5 w' => ∃ (x5_1 : Int), v5 = .int .i64 x5_1 ∧ Aside0 (tattingref1_SameTokens.l0 kq l0 l1 x5_1 = some r) ∧ Aside0 (kq ≤ k) ∧ Drawn0 w w')
  case atStart => exact ⟨(0), (by first | rfl | (simp; done) | (simp [*]; done)), H', ⟨Nat.le_refl _⟩, by repeat (first | exact Drawn0.refl _ | apply Drawn0.step)⟩
  case round =>
   clear H'
   try clear c1
   try clear p2
   try clear c3
   try clear c3b0
   try clear c3b1
   try clear c3b2
   obtain ⟨x5_1, rfl, HA, HK1, ⟨m1, rfl⟩⟩ := hrel
   cases gk with
   | zero => exact absurd HA.out (by simp [tattingref1_SameTokens.l0])
   | succ k1 =>
    have H := HA.out
    clear HA
    simp only [tattingref1_SameTokens.l0] at H
    by_cases c4 : x5_1 < (l0.length : Int)
    ·rw [if_pos c4] at H
     have c4b0 : decide (x5_1 < (l0.length : Int)) = true := decide_eq_true c4
     clear c4
     by_cases c5 : 0 ≤ x5_1
     ·rw [if_pos c5] at H
      have c5b0 : decide (0 ≤ x5_1) = true := decide_eq_true c5
      clear c5
      by_cases c6 : x5_1 < (l1.length : Int)
      ·rw [if_pos c6] at H
       have c6b0 : decide (x5_1 < (l1.length : Int)) = true := decide_eq_true c6
       clear c6
       by_cases c7 : (strOfNums (rd_L1 l0 x5_1)).toList = (strOfNums (rd_L1 l1 x5_1)).toList
       ·rw [if_pos c7] at H
        have c7b0 : ((strOfNums (rd_L1 l0 x5_1)).toList == (strOfNums (rd_L1 l1 x5_1)).toList) = true := beq_iff_eq.mpr c7
        have c7b1 : ((strOfNums (rd_L1 l0 x5_1)).toList != (strOfNums (rd_L1 l1 x5_1)).toList) = false := bne_eq_false_iff_eq.mpr c7
        clear c7
        have H' := Aside0.mk H
        clear H
        have p178 : 0 ≤ (x5_1 : Int) := of_decide_eq_true (by first | (with_reducible assumption) | assumption)
        have q178 : x5_1 < (l0.length : Int) := of_decide_eq_true (by first | (with_reducible assumption) | assumption)
        obtain ⟨ad178, A178_0, c178_0, e178, hx178_0, hl178_0, hi178_0⟩ := at_L1 HR0.out x5_1 p178 q178
        cases e178
        have HR178_0 := Aside0.mk hi178_0
        have HC178_0 := Aside0.mk hl178_0
        clear hi178_0 hl178_0
        replace p178 := eq_true p178
        replace q178 := eq_true q178
        have hcv8 := Kd.C_string (P := Try.prog) (A := A178_0) (c := c178_0) Try.underlying22 Try.underlying5 Try.underlying9 HR178_0.out
        have hcvd9 := fun nd_ => Kd.C_string (P := Try.prog) (A := A178_0) (c := c178_0) Try.underlying22 Try.underlying5 Try.underlying9 (Kd.C_drewN HR178_0.out nd_)
        have p179 : 0 ≤ (x5_1 : Int) := of_decide_eq_true (by first | (with_reducible assumption) | assumption)
        have q179 : x5_1 < (l1.length : Int) := of_decide_eq_true (by first | (with_reducible assumption) | assumption)
        obtain ⟨ad179, A179_0, c179_0, e179, hx179_0, hl179_0, hi179_0⟩ := at_L1 HR1.out x5_1 p179 q179
        cases e179
        have HR179_0 := Aside0.mk hi179_0
        have HC179_0 := Aside0.mk hl179_0
        clear hi179_0 hl179_0
        replace p179 := eq_true p179
        replace q179 := eq_true q179
        have hcv10 := Kd.C_string (P := Try.prog) (A := A179_0) (c := c179_0) Try.underlying22 Try.underlying5 Try.underlying9 HR179_0.out
        have hcvd11 := fun nd_ => Kd.C_string (P := Try.prog) (A := A179_0) (c := c179_0) Try.underlying22 Try.underlying5 Try.underlying9 (Kd.C_drewN HR179_0.out nd_)
        go_wp2
        repeat (go_quiet (fail); try go_wp2)
        go_roundg k1
        case measure => have := HK1.out; omega
        case rel => exact ⟨(wrap64 (x5_1 + 1)), (by first | rfl | (simp; done) | (simp [*]; done)), H', ⟨by have := HK1.out; omega⟩, by repeat (first | exact Drawn0.refl _ | apply Drawn0.step)⟩
       ·rw [if_neg c7] at H
        have c7b0 : ((strOfNums (rd_L1 l0 x5_1)).toList == (strOfNums (rd_L1 l1 x5_1)).toList) = false := beq_eq_false_iff_ne.mpr c7
        have c7b1 : ((strOfNums (rd_L1 l0 x5_1)).toList != (strOfNums (rd_L1 l1 x5_1)).toList) = true := bne_iff_ne.mpr c7
        obtain rfl := Option.some.inj H
        have p178 : 0 ≤ (x5_1 : Int) := of_decide_eq_true (by first | (with_reducible assumption) | assumption)
        have q178 : x5_1 < (l0.length : Int) := of_decide_eq_true (by first | (with_reducible assumption) | assumption)
        obtain ⟨ad178, A178_0, c178_0, e178, hx178_0, hl178_0, hi178_0⟩ := at_L1 HR0.out x5_1 p178 q178
        cases e178
        have HR178_0 := Aside0.mk hi178_0
        have HC178_0 := Aside0.mk hl178_0
        clear hi178_0 hl178_0
        replace p178 := eq_true p178
        replace q178 := eq_true q178
        have hcv12 := Kd.C_string (P := Try.prog) (A := A178_0) (c := c178_0) Try.underlying22 Try.underlying5 Try.underlying9 HR178_0.out
        have hcvd13 := fun nd_ => Kd.C_string (P := Try.prog) (A := A178_0) (c := c178_0) Try.underlying22 Try.underlying5 Try.underlying9 (Kd.C_drewN HR178_0.out nd_)
        have p179 : 0 ≤ (x5_1 : Int) := of_decide_eq_true (by first | (with_reducible assumption) | assumption)
        have q179 : x5_1 < (l1.length : Int) := of_decide_eq_true (by first | (with_reducible assumption) | assumption)
        obtain ⟨ad179, A179_0, c179_0, e179, hx179_0, hl179_0, hi179_0⟩ := at_L1 HR1.out x5_1 p179 q179
        cases e179
        have HR179_0 := Aside0.mk hi179_0
        have HC179_0 := Aside0.mk hl179_0
        clear hi179_0 hl179_0
        replace p179 := eq_true p179
        replace q179 := eq_true q179
        have hcv14 := Kd.C_string (P := Try.prog) (A := A179_0) (c := c179_0) Try.underlying22 Try.underlying5 Try.underlying9 HR179_0.out
        have hcvd15 := fun nd_ => Kd.C_string (P := Try.prog) (A := A179_0) (c := c179_0) Try.underlying22 Try.underlying5 Try.underlying9 (Kd.C_drewN HR179_0.out nd_)
        go_wp2
        repeat (go_quiet (fail); try go_wp2)
        go_ret
        exact ⟨by first | rfl | (simp; done) | (simp [*]; done), by repeat (first | exact Drawn0.refl _ | apply Drawn0.step)⟩
      ·rw [if_neg c6] at H
       exact absurd H (by simp)
     ·rw [if_neg c5] at H
      exact absurd H (by simp)
    ·rw [if_neg c4] at H
     have c4b0 : decide (x5_1 < (l0.length : Int)) = false := decide_eq_false c4
     clear c4
     obtain rfl := Option.some.inj H
     go_wp2
     repeat (go_quiet (fail); try go_wp2)
     go_ret
     exact ⟨by first | rfl | (simp; done) | (simp [*]; done), by repeat (first | exact Drawn0.refl _ | apply Drawn0.step)⟩
 ·rw [if_neg c3] at H
  have c3b0 : ((l0.length : Int) == (l1.length : Int)) = false := beq_eq_false_iff_ne.mpr c3
  have c3b1 : ((l0.length : Int) != (l1.length : Int)) = true := bne_iff_ne.mpr c3
  have c3b2 : (l0.length == l1.length) = false := by first | simpa using c3 | (simp at c3 ⊢; omega)
  obtain rfl := Option.some.inj H
  go_enter Try.func15, Try.ntmps15
  go_wp2
  repeat (go_quiet (fail); try go_wp2)
  go_ret
  exact ⟨by first | rfl | (simp; done) | (simp [*]; done), by repeat (first | exact Drawn0.refl _ | apply Drawn0.step)⟩

/-! ### tattinglaw25_PatchApplies: function 4 -/
def tattinglaw25_PatchApplies.j0 : Nat → List (S28) → List (List Int) → Bool → Option (Bool)
 | 0, _, _, _ => none
 | k + 1, x0, x1, x18 => if x18 = true then (some true) else ((patch_Apply.f k x0 x1).bind fun bt183 => ((tattingref24_Apply.f k x0 x1).bind fun bt187 => (if bt183.2 = bt187.2 then ((tattingref1_SameTokens.f k bt183.1 bt187.1).bind fun t191 => (some t191)) else (some false))))
def tattinglaw25_PatchApplies.f (k : Nat) (l0 : List (S28)) (l1 : List (List Int)) : Option (Bool) := (tattinglaw25_awake.f k).bind fun t180 => (if t180 = true then ((tattinglaw25_small.f k l0).bind fun t181 => (if t181 = true then ((tattinglaw25_few.f k l1).bind fun t182 => (tattinglaw25_PatchApplies.j0 k l0 l1 (!t182))) else (tattinglaw25_PatchApplies.j0 k l0 l1 true))) else (some false))
theorem tattinglaw25_PatchApplies.mono_l : ∀ k, (∀ y0 y1 y2, LeO (tattinglaw25_PatchApplies.j0 k y0 y1 y2) (tattinglaw25_PatchApplies.j0 (k + 1) y0 y1 y2))
 | 0 => fun _ _ _ r h => by simp [tattinglaw25_PatchApplies.j0] at h
 | k + 1 => by
  have ih0 := tattinglaw25_PatchApplies.mono_l k
  ·intro y0 y1 y2
   unfold tattinglaw25_PatchApplies.j0
   repeat' first
   | (with_reducible exact ih0 _ _ _)
   | (with_reducible exact patch_Apply.mono _ _ _)
   | (with_reducible exact tattinglaw25_awake.mono _)
   | (with_reducible exact tattinglaw25_few.mono _ _)
   | (with_reducible exact tattinglaw25_small.mono _ _)
   | (with_reducible exact tattingref1_SameTokens.mono _ _ _)
   | (with_reducible exact tattingref24_Apply.mono _ _ _)
   | (with_reducible exact LeO.refl _)
   | (with_reducible exact LeO.none _)
   | (with_reducible refine LeO.ite ?_ ?_)
   | (with_reducible refine LeO.bind ?_ (fun _ => ?_))
   | exact ih0 _ _ _
   | exact patch_Apply.mono _ _ _
   | exact tattinglaw25_awake.mono _
   | exact tattinglaw25_few.mono _ _
   | exact tattinglaw25_small.mono _ _
   | exact tattingref1_SameTokens.mono _ _ _
   | exact tattingref24_Apply.mono _ _ _
   | exact LeO.none _
   | refine LeO.ite ?_ ?_
   | refine LeO.bind ?_ (fun _ => ?_)
theorem tattinglaw25_PatchApplies.mono : ∀ a0 a1 k, LeO (tattinglaw25_PatchApplies.f k a0 a1) (tattinglaw25_PatchApplies.f (k + 1) a0 a1) := by
 intro a0 a1 k
 have ih0 := tattinglaw25_PatchApplies.mono_l k
 unfold tattinglaw25_PatchApplies.f
 repeat' first
   | (with_reducible exact ih0 _ _ _)
   | (with_reducible exact patch_Apply.mono _ _ _)
   | (with_reducible exact tattinglaw25_awake.mono _)
   | (with_reducible exact tattinglaw25_few.mono _ _)
   | (with_reducible exact tattinglaw25_small.mono _ _)
   | (with_reducible exact tattingref1_SameTokens.mono _ _ _)
   | (with_reducible exact tattingref24_Apply.mono _ _ _)
   | (with_reducible exact LeO.refl _)
   | (with_reducible exact LeO.none _)
   | (with_reducible refine LeO.ite ?_ ?_)
   | (with_reducible refine LeO.bind ?_ (fun _ => ?_))
   | exact ih0 _ _ _
   | exact patch_Apply.mono _ _ _
   | exact tattinglaw25_awake.mono _
   | exact tattinglaw25_few.mono _ _
   | exact tattinglaw25_small.mono _ _
   | exact tattingref1_SameTokens.mono _ _ _
   | exact tattingref24_Apply.mono _ _ _
   | exact LeO.none _
   | refine LeO.ite ?_ ?_
   | refine LeO.bind ?_ (fun _ => ?_)
set_option maxHeartbeats 8000000 in
set_option maxRecDepth 100000 in
theorem tattinglaw25_PatchApplies.calls (k : Nat) (A0 : Option Addr) (c0 : Nat) (l0 : List (S28)) (A1 : Option Addr) (c1 : Nat) (l1 : List (List Int)) (r : Bool) (w : World) (hr0 : Kd.C k28 w A0 l0.length l0) (hc0 : l0.length ≤ c0) (hr1 : Kd.C (Kd.slice 5 (Kd.int .u8)) w A1 l1.length l1) (hc1 : l1.length ≤ c1) (h : tattinglaw25_PatchApplies.f k l0 l1 = some r) (hr_ : r = true) :
  Calls Try.prog 4 #[.slice A0 l0.length c0, .slice A1 l1.length c1] w fun e w' => e = .returned (.bool r) ∧ Below w.heap.size w w' := by
 have HR0 := Aside0.mk hr0
 have HC0 := Aside0.mk hc0
 clear hr0 hc0
 have HR1 := Aside0.mk hr1
 have HC1 := Aside0.mk hc1
 clear hr1 hc1
 have HB := Aside0.mk (Below.refl w.heap.size w)
 have H : ((tattinglaw25_awake.f k).bind fun t180 => (if t180 = true then ((tattinglaw25_small.f k l0).bind fun t181 => (if t181 = true then ((tattinglaw25_few.f k l1).bind fun t182 => (tattinglaw25_PatchApplies.j0 k l0 l1 (!t182))) else (tattinglaw25_PatchApplies.j0 k l0 l1 true))) else (some false))) = some r := h
 clear h
 replace H := Option.bind_eq_some_iff.mp H
 obtain ⟨t180, A30, H⟩ := H
 replace H : (if t180 = true then ((tattinglaw25_small.f k l0).bind fun t181 => (if t181 = true then ((tattinglaw25_few.f k l1).bind fun t182 => (tattinglaw25_PatchApplies.j0 k l0 l1 (!t182))) else (tattinglaw25_PatchApplies.j0 k l0 l1 true))) else (some false)) = some r := H
 have A3 := Aside0.mk A30
 clear A30
 by_cases c4 : t180 = true
 ·subst c4
  have H1 : ((tattinglaw25_small.f k l0).bind fun t181 => (if t181 = true then ((tattinglaw25_few.f k l1).bind fun t182 => (tattinglaw25_PatchApplies.j0 k l0 l1 (!t182))) else (tattinglaw25_PatchApplies.j0 k l0 l1 true))) = some r := by rw [if_pos rfl] at H; exact H
  clear H
  have H := H1
  clear H1
  have HC5 := Aside0.mk H
  clear H
  go_enter Try.func4, Try.ntmps4
  go_upto_region 3 with (first | ((first | (with_reducible refine gate_callee (f := 11) rfl ?_); refine goesL_ (some 9) rfl rfl Try.func11 (by kernel_rfl) rfl #[] rfl (by (try simp only [List.map_toArray, List.map_cons, List.map_nil]); first | done | rfl | (simp only [List.length_drop, List.length_take]; rfl)) ?_ | go_at_call 11); (with_reducible refine (tattinglaw25_awake.calls k  true _ A3.out rfl).mono ?_); rintro e w6 ⟨rfl, hb⟩; (try refine ⟨_, rfl, ?_⟩); have n0_ := Aside0.mk (below_step (by repeat (first | (with_reducible first | exact HB.out | apply below_alloc | apply pw_below_drewN | apply below_drew1) | exact HB.out)) hb); clear HB; have HB := n0_; clear n0_; (try clear hb); (try clear hb2); (try clear hk); (try clear hi)))
  (try simp only [Act.put, sA,sB,sC])
  go_cut [18] (fun v18 wc => ∃ (kq : Nat) (x18_4 : Bool), v18 = .bool x18_4 ∧ Aside0 (tattinglaw25_PatchApplies.j0 kq l0 l1 x18_4 = some r) ∧ Aside0 (kq ≤ k) ∧ Aside0 (Below w.heap.size w wc))
  case first =>
   have H := HC5.out
   clear HC5
   replace H := Option.bind_eq_some_iff.mp H
   obtain ⟨t181, A70, H⟩ := H
   replace H : (if t181 = true then ((tattinglaw25_few.f k l1).bind fun t182 => (tattinglaw25_PatchApplies.j0 k l0 l1 (!t182))) else (tattinglaw25_PatchApplies.j0 k l0 l1 true)) = some r := H
   have A7 := Aside0.mk A70
   clear A70
   by_cases c8 : t181 = true
   ·subst c8
    have H1 : ((tattinglaw25_few.f k l1).bind fun t182 => (tattinglaw25_PatchApplies.j0 k l0 l1 (!t182))) = some r := by rw [if_pos rfl] at H; exact H
    clear H
    have H := H1
    clear H1
    replace H := Option.bind_eq_some_iff.mp H
    obtain ⟨t182, A90, H⟩ := H
    replace H : (tattinglaw25_PatchApplies.j0 k l0 l1 (!t182)) = some r := H
    have A9 := Aside0.mk A90
    clear A90
    have H' := Aside0.mk H
    clear H
    go_wp2_with (first | ((first | (with_reducible refine gate_callee (f := 12) rfl ?_); refine goesL_ (some 12) rfl rfl Try.func12 (by kernel_rfl) rfl #[.slice A0 l0.length c0] rfl (by (try simp only [List.map_toArray, List.map_cons, List.map_nil]); first | done | rfl | (simp only [List.length_drop, List.length_take]; rfl)) ?_ | go_at_call 12); (with_reducible refine (tattinglaw25_small.calls k _ _ l0 true _ ?side1 ?side2 A7.out).mono ?_); (case side1 => repeat (first | exact (Kd.C_below HR0.out HB.out) | (with_reducible refine Kd.C_alloc ?_ _) | (with_reducible refine Kd.C_drewN ?_ _) | (with_reducible refine Kd.C_drew ?_))); (case side2 => exact HC0.out); rintro e w' ⟨rfl, ⟨nd, rfl⟩⟩; (try refine ⟨_, rfl, ?_⟩)) | (go_at_call 13; (with_reducible refine (tattinglaw25_few.calls k _ _ l1 t182 _ ?side1 ?side2 A9.out).mono ?_); (case side1 => repeat (first | exact (Kd.C_below HR1.out (by repeat (first | (with_reducible first | exact HB.out | apply below_alloc | apply pw_below_drewN | apply below_drew1) | exact HB.out))) | (with_reducible refine Kd.C_alloc ?_ _) | (with_reducible refine Kd.C_drewN ?_ _) | (with_reducible refine Kd.C_drew ?_))); (case side2 => exact HC1.out); rintro e w' ⟨rfl, ⟨nd, rfl⟩⟩))
    go_meet
    case rel => exact ⟨_, (!t182), (by first | rfl | (simp; done) | (simp [*]; done)), H', ⟨by first | omega | exact Nat.le_refl _⟩, ⟨by repeat (first | (with_reducible first | exact HB.out | apply below_alloc | apply pw_below_drewN | apply below_drew1) | exact HB.out)⟩⟩
   ·replace c8 := Bool.eq_false_iff.mpr c8
    subst c8
    have H1 : (tattinglaw25_PatchApplies.j0 k l0 l1 true) = some r := by rw [if_neg (show ¬ (false = true) by decide)] at H; exact H
    clear H
    have H := H1
    clear H1
    have H' := Aside0.mk H
    clear H
    go_wp2_with (first | ((first | (with_reducible refine gate_callee (f := 12) rfl ?_); refine goesL_ (some 12) rfl rfl Try.func12 (by kernel_rfl) rfl #[.slice A0 l0.length c0] rfl (by (try simp only [List.map_toArray, List.map_cons, List.map_nil]); first | done | rfl | (simp only [List.length_drop, List.length_take]; rfl)) ?_ | go_at_call 12); (with_reducible refine (tattinglaw25_small.calls k _ _ l0 false _ ?side1 ?side2 A7.out).mono ?_); (case side1 => repeat (first | exact (Kd.C_below HR0.out HB.out) | (with_reducible refine Kd.C_alloc ?_ _) | (with_reducible refine Kd.C_drewN ?_ _) | (with_reducible refine Kd.C_drew ?_))); (case side2 => exact HC0.out); rintro e w' ⟨rfl, ⟨nd, rfl⟩⟩; (try refine ⟨_, rfl, ?_⟩)))
    go_meet
    case rel => exact ⟨_, (true), (by first | rfl | (simp; done) | (simp [*]; done)), H', ⟨by first | omega | exact Nat.le_refl _⟩, ⟨by repeat (first | (with_reducible first | exact HB.out | apply below_alloc | apply pw_below_drewN | apply below_drew1) | exact HB.out)⟩⟩
  case rest =>
   clear HC5
   try clear c1
   try clear p2
   try clear c4
   try clear c8
   obtain ⟨kq, x18_4, rfl, HA, HJ4, HB⟩ := hcut
   cases kq with
   | zero => exact absurd HA.out (by simp [tattinglaw25_PatchApplies.j0])
   | succ kj4 =>
    have H := HA.out
    clear HA
    simp only [tattinglaw25_PatchApplies.j0] at H
    by_cases c10 : x18_4 = true
    ·subst c10
     have H1 : (some true) = some r := by rw [if_pos rfl] at H; exact H
     clear H
     have H := H1
     clear H1
     obtain rfl := Option.some.inj H
     go_wp2
     go_ret
     exact ⟨by first | rfl | (simp [errW_none, errW_some] <;> rfl) | (simp [*, errW_none, errW_some] <;> rfl), by repeat (first | (with_reducible first | exact HB.out | apply below_alloc | apply pw_below_drewN | apply below_drew1) | exact HB.out)⟩
    ·replace c10 := Bool.eq_false_iff.mpr c10
     subst c10
     have H1 : ((patch_Apply.f kj4 l0 l1).bind fun bt183 => ((tattingref24_Apply.f kj4 l0 l1).bind fun bt187 => (if bt183.2 = bt187.2 then ((tattingref1_SameTokens.f kj4 bt183.1 bt187.1).bind fun t191 => (some t191)) else (some false)))) = some r := by rw [if_neg (show ¬ (false = true) by decide)] at H; exact H
     clear H
     have H := H1
     clear H1
     replace H := Option.bind_eq_some_iff.mp H
     obtain ⟨⟨t183, t186⟩, A110, H⟩ := H
     replace H : ((tattingref24_Apply.f kj4 l0 l1).bind fun bt187 => (if t186 = bt187.2 then ((tattingref1_SameTokens.f kj4 t183 bt187.1).bind fun t191 => (some t191)) else (some false))) = some r := H
     have A11 := Aside0.mk A110
     clear A110
     replace H := Option.bind_eq_some_iff.mp H
     obtain ⟨⟨t187, t190⟩, A120, H⟩ := H
     replace H : (if t186 = t190 then ((tattingref1_SameTokens.f kj4 t183 t187).bind fun t191 => (some t191)) else (some false)) = some r := H
     have A12 := Aside0.mk A120
     clear A120
     by_cases c13 : t186 = t190
     ·rw [if_pos c13] at H
      have c13b0 : (t186 == t190) = true := beq_iff_eq.mpr c13
      have c13b1 : (t186 != t190) = false := bne_eq_false_iff_eq.mpr c13
      clear c13
      replace H := Option.bind_eq_some_iff.mp H
      obtain ⟨t191, A140, H⟩ := H
      replace H : (some t191) = some r := H
      have A14 := Aside0.mk A140
      clear A140
      obtain rfl := Option.some.inj H
      go_wp2_with (first | ((first | (with_reducible refine gate_callee (f := 9) rfl ?_); refine goesL_ (some 22) rfl rfl Try.func9 (by kernel_rfl) rfl #[.slice A0 l0.length c0, .slice A1 l1.length c1] rfl (by (try simp only [List.map_toArray, List.map_cons, List.map_nil]); first | done | rfl | (simp only [List.length_drop, List.length_take]; rfl)) ?_ | go_at_call 9); (with_reducible refine (patch_Apply.calls kj4 _ _ l0 _ _ l1 t183 t186 _ ?side1 ?side2 ?side3 ?side4 A11.out).mono ?_); (case side1 => repeat (first | exact (Kd.C_below HR0.out HB.out) | (with_reducible refine Kd.C_alloc ?_ _) | (with_reducible refine Kd.C_drewN ?_ _) | (with_reducible refine Kd.C_drew ?_))); (case side2 => exact HC0.out); (case side3 => repeat (first | exact (Kd.C_below HR1.out HB.out) | (with_reducible refine Kd.C_alloc ?_ _) | (with_reducible refine Kd.C_drewN ?_ _) | (with_reducible refine Kd.C_drew ?_))); (case side4 => exact HC1.out); rintro e w15 ⟨v184, rfl, ho0, hb⟩; (try refine ⟨_, rfl, ?_⟩); have n0_ := Aside0.mk (Kd.N_lower (Kd.N_mono (ok' := fun k_ => True) (by first | exact ho0 | exact Kd.S_N ho0 | exact Kd.R_N ho0) (fun k_ hk_ => trivial)) (below_size (by repeat (first | (with_reducible first | exact HB.out | apply below_alloc | apply pw_below_drewN | apply below_drew1) | exact HB.out)))); have n1_ := Aside0.mk (below_step (by repeat (first | (with_reducible first | exact HB.out | apply below_alloc | apply pw_below_drewN | apply below_drew1) | exact HB.out)) hb); clear HB; have HO185 := n0_; have HB := n1_; clear n0_ n1_; (try clear hb); (try clear hb2); (try clear hk); (try clear hi); (try clear ho0)) | ((first | (with_reducible refine gate_callee (f := 14) rfl ?_); refine goesL_ (some 28) rfl rfl Try.func14 (by kernel_rfl) rfl #[.slice A0 l0.length c0, .slice A1 l1.length c1] rfl (by (try simp only [List.map_toArray, List.map_cons, List.map_nil]); first | done | rfl | (simp only [List.length_drop, List.length_take]; rfl)) ?_ | go_at_call 14); (with_reducible refine (tattingref24_Apply.calls kj4 (fun k_ => k_ < w.heap.size) _ _ l0 (fun k_ => k_ < w.heap.size) _ _ l1 t187 t190 _ ?side1 ?side2 A12.out).mono ?_); (case side1 => exact Kd.V_mk HC0.out (Kd.F_below (Kd.C_F k28_heap HR0.out) (by repeat (first | (with_reducible first | exact HB.out | apply below_alloc | apply pw_below_drewN | apply below_drew1) | exact HB.out)))); (case side2 => exact Kd.V_mk HC1.out (Kd.F_below (Kd.C_F (Kd.heap_slice 5 (Kd.heap_int .u8)) HR1.out) (by repeat (first | (with_reducible first | exact HB.out | apply below_alloc | apply pw_below_drewN | apply below_drew1) | exact HB.out)))); rintro e w16 ⟨v188, rfl, ho0, hb⟩; (try refine ⟨_, rfl, ?_⟩); have n0_ := Aside0.mk (Kd.N_elder' (by (with_reducible repeat (first | apply Kd.N_alloc | apply Kd.N_drewN | apply Kd.N_drew)); exact HO185.out) (Kd.N_base ho0) hb); have n1_ := Aside0.mk (Kd.N_lower (Kd.N_mono (ok' := fun k_ => some k_ ≠ (v184 : Value).ownBlock) ho0 (fun k_ hk_ => Or.elim hk_ (fun hs_ => Or.elim hs_ (fun hs_ => fun e_ => Nat.not_le.2 hs_ (Kd.N_base HO185.out k_ e_.symm)) (fun hs_ => fun e_ => Nat.not_le.2 hs_ (Kd.N_base HO185.out k_ e_.symm))) (fun hn_ => (Kd.fresh' (Kd.N_lt (by (with_reducible repeat (first | apply Kd.N_alloc | apply Kd.N_drewN | apply Kd.N_drew)); exact HO185.out)) k_ hn_)))) (below_size (by repeat (first | (with_reducible first | exact HB.out | apply below_alloc | apply pw_below_drewN | apply below_drew1) | exact HB.out)))); have n2_ := Aside0.mk (below_step (by repeat (first | (with_reducible first | exact HB.out | apply below_alloc | apply pw_below_drewN | apply below_drew1) | exact HB.out)) hb); clear HO185; clear HB; have HO185 := n0_; have HO189 := n1_; have HB := n2_; clear n0_ n1_ n2_; (try clear hb); (try clear hb2); (try clear hk); (try clear hi); (try clear ho0); obtain ⟨Ao17, co17, eo17⟩ := Kd.N_slice HO185.out; subst eo17; obtain ⟨Ao18, co18, eo18⟩ := Kd.N_slice HO189.out; subst eo18) | (go_at_call 15; (with_reducible refine (tattingref1_SameTokens.calls kj4 _ _ t183 _ _ t187 t191 _ ?side1 ?side2 ?side3 ?side4 A14.out).mono ?_); (case side1 => repeat (first | exact (Kd.N_reads' HO185.out).2.2 | (with_reducible refine Kd.C_alloc ?_ _) | (with_reducible refine Kd.C_drewN ?_ _) | (with_reducible refine Kd.C_drew ?_))); (case side2 => exact (Kd.N_reads' HO185.out).2.1); (case side3 => repeat (first | exact (Kd.N_reads' HO189.out).2.2 | (with_reducible refine Kd.C_alloc ?_ _) | (with_reducible refine Kd.C_drewN ?_ _) | (with_reducible refine Kd.C_drew ?_))); (case side4 => exact (Kd.N_reads' HO189.out).2.1); rintro e w' ⟨rfl, ⟨nd, rfl⟩⟩))
      go_ret
      exact ⟨by first | rfl | (simp [errW_none, errW_some] <;> rfl) | (simp [*, errW_none, errW_some] <;> rfl), by repeat (first | (with_reducible first | exact HB.out | apply below_alloc | apply pw_below_drewN | apply below_drew1) | exact HB.out)⟩
     ·rw [if_neg c13] at H
      have c13b0 : (t186 == t190) = false := beq_eq_false_iff_ne.mpr c13
      have c13b1 : (t186 != t190) = true := bne_iff_ne.mpr c13
      exact absurd (Option.some.inj H) (by rw [hr_]; decide)
 ·replace c4 := Bool.eq_false_iff.mpr c4
  subst c4
  have H1 : (some false) = some r := by rw [if_neg (show ¬ (false = true) by decide)] at H; exact H
  clear H
  have H := H1
  clear H1
  exact absurd (Option.some.inj H) (by rw [hr_]; decide)

end Go.Proofs.Ytlodaoijokfblaa.PPatchApplies
