/- What the given program's functions come to, each a Lean function and the walk that shows it: no condition beside those that each theorem names. -/
import Derived.Test.YtlodaoijokfblaaPPatchInvertsx0
import Derived.Test.YtlodaoijokfblaaPPatchInvertsx1
import Derived.Test.YtlodaoijokfblaaPPatchInvertsx2
import Derived.Test.YtlodaoijokfblaaPPatchInvertsx4
import Derived.Test.YtlodaoijokfblaaPPatchInvertsx5
namespace Go.Proofs.Ytlodaoijokfblaa.PPatchInverts
open Go.RowKit Go.Proofs.YtlodaoijokfblaaW.PrintWords Go.Proofs.YtlodaoijokfblaaW.PrintLast Go.Proofs.YtlodaoijokfblaaW.PrintMore
attribute [local go_sem] max2_int min2_int max_two min_two max_three min_three max_four min_four   -- for this text's walks alone
set_option linter.unusedVariables false
set_option linter.unusedSimpArgs false

/-! ### tattinglaw25_PatchInverts: function 5 -/
def tattinglaw25_PatchInverts.j0 : Nat → List (S28) → List (S28) → Int → Bool → Option (Bool)
 | 0, _, _, _, _ => none
 | k + 1, x0, x3, x4, x32 => if x32 = true then (some false) else (if x4 = 0 then ((patch_Invert.f k x3).bind fun bt197 => (if bt197.2 = 0 then ((tattingref24_Same.f k bt197.1 x0).bind fun t201 => (some t201)) else (some false))) else (some true))
def tattinglaw25_PatchInverts.f (k : Nat) (l0 : List (S28)) : Option (Bool) := (tattinglaw25_awake.f k).bind fun t186 => (if t186 = true then ((tattinglaw25_small.f k l0).bind fun t187 => (if t187 = true then ((patch_Invert.f k l0).bind fun bt188 => ((tattingref24_Invert.f k l0).bind fun bt192 => (if bt188.2 = bt192.2 then ((tattingref24_Same.f k bt188.1 bt192.1).bind fun t196 => (tattinglaw25_PatchInverts.j0 k l0 bt188.1 bt188.2 (!t196))) else (tattinglaw25_PatchInverts.j0 k l0 bt188.1 bt188.2 true)))) else (some true))) else (some false))
theorem tattinglaw25_PatchInverts.mono_l : ∀ k, (∀ y0 y1 y2 y3, LeO (tattinglaw25_PatchInverts.j0 k y0 y1 y2 y3) (tattinglaw25_PatchInverts.j0 (k + 1) y0 y1 y2 y3))
 | 0 => fun _ _ _ _ r h => by simp [tattinglaw25_PatchInverts.j0] at h
 | k + 1 => by
  have ih0 := tattinglaw25_PatchInverts.mono_l k
  ·intro y0 y1 y2 y3
   unfold tattinglaw25_PatchInverts.j0
   repeat' first
   | (with_reducible exact ih0 _ _ _ _)
   | (with_reducible exact patch_Invert.mono _ _)
   | (with_reducible exact tattinglaw25_awake.mono _)
   | (with_reducible exact tattinglaw25_small.mono _ _)
   | (with_reducible exact tattingref24_Invert.mono _ _)
   | (with_reducible exact tattingref24_Same.mono _ _ _)
   | (with_reducible exact LeO.refl _)
   | (with_reducible exact LeO.none _)
   | (with_reducible refine LeO.ite ?_ ?_)
   | (with_reducible refine LeO.bind ?_ (fun _ => ?_))
   | exact ih0 _ _ _ _
   | exact patch_Invert.mono _ _
   | exact tattinglaw25_awake.mono _
   | exact tattinglaw25_small.mono _ _
   | exact tattingref24_Invert.mono _ _
   | exact tattingref24_Same.mono _ _ _
   | exact LeO.none _
   | refine LeO.ite ?_ ?_
   | refine LeO.bind ?_ (fun _ => ?_)
theorem tattinglaw25_PatchInverts.mono : ∀ a0 k, LeO (tattinglaw25_PatchInverts.f k a0) (tattinglaw25_PatchInverts.f (k + 1) a0) := by
 intro a0 k
 have ih0 := tattinglaw25_PatchInverts.mono_l k
 unfold tattinglaw25_PatchInverts.f
 repeat' first
   | (with_reducible exact ih0 _ _ _ _)
   | (with_reducible exact patch_Invert.mono _ _)
   | (with_reducible exact tattinglaw25_awake.mono _)
   | (with_reducible exact tattinglaw25_small.mono _ _)
   | (with_reducible exact tattingref24_Invert.mono _ _)
   | (with_reducible exact tattingref24_Same.mono _ _ _)
   | (with_reducible exact LeO.refl _)
   | (with_reducible exact LeO.none _)
   | (with_reducible refine LeO.ite ?_ ?_)
   | (with_reducible refine LeO.bind ?_ (fun _ => ?_))
   | exact ih0 _ _ _ _
   | exact patch_Invert.mono _ _
   | exact tattinglaw25_awake.mono _
   | exact tattinglaw25_small.mono _ _
   | exact tattingref24_Invert.mono _ _
   | exact tattingref24_Same.mono _ _ _
   | exact LeO.none _
   | refine LeO.ite ?_ ?_
   | refine LeO.bind ?_ (fun _ => ?_)
set_option maxHeartbeats 8000000 in
set_option maxRecDepth 100000 in
theorem tattinglaw25_PatchInverts.calls (k : Nat) (A0 : Option Addr) (c0 : Nat) (l0 : List (S28)) (r : Bool) (w : World) (hr0 : Kd.C k28 w A0 l0.length l0) (hc0 : l0.length ≤ c0) (h : tattinglaw25_PatchInverts.f k l0 = some r) (hr_ : r = true) :
  Calls Try.prog 5 #[.slice A0 l0.length c0] w fun e w' => e = .returned (.bool r) ∧ Below w.heap.size w w' := by
 have HR0 := Aside0.mk hr0
 have HC0 := Aside0.mk hc0
 clear hr0 hc0
 have HB := Aside0.mk (Below.refl w.heap.size w)
 have H : ((tattinglaw25_awake.f k).bind fun t186 => (if t186 = true then ((tattinglaw25_small.f k l0).bind fun t187 => (if t187 = true then ((patch_Invert.f k l0).bind fun bt188 => ((tattingref24_Invert.f k l0).bind fun bt192 => (if bt188.2 = bt192.2 then ((tattingref24_Same.f k bt188.1 bt192.1).bind fun t196 => (tattinglaw25_PatchInverts.j0 k l0 bt188.1 bt188.2 (!t196))) else (tattinglaw25_PatchInverts.j0 k l0 bt188.1 bt188.2 true)))) else (some true))) else (some false))) = some r := h
 clear h
 replace H := Option.bind_eq_some_iff.mp H
 obtain ⟨t186, A20, H⟩ := H
 replace H : (if t186 = true then ((tattinglaw25_small.f k l0).bind fun t187 => (if t187 = true then ((patch_Invert.f k l0).bind fun bt188 => ((tattingref24_Invert.f k l0).bind fun bt192 => (if bt188.2 = bt192.2 then ((tattingref24_Same.f k bt188.1 bt192.1).bind fun t196 => (tattinglaw25_PatchInverts.j0 k l0 bt188.1 bt188.2 (!t196))) else (tattinglaw25_PatchInverts.j0 k l0 bt188.1 bt188.2 true)))) else (some true))) else (some false)) = some r := H
 have A2 := Aside0.mk A20
 clear A20
 by_cases c3 : t186 = true
 ·subst c3
  have H1 : ((tattinglaw25_small.f k l0).bind fun t187 => (if t187 = true then ((patch_Invert.f k l0).bind fun bt188 => ((tattingref24_Invert.f k l0).bind fun bt192 => (if bt188.2 = bt192.2 then ((tattingref24_Same.f k bt188.1 bt192.1).bind fun t196 => (tattinglaw25_PatchInverts.j0 k l0 bt188.1 bt188.2 (!t196))) else (tattinglaw25_PatchInverts.j0 k l0 bt188.1 bt188.2 true)))) else (some true))) = some r := by rw [if_pos rfl] at H; exact H
  clear H
  have H := H1
  clear H1
  replace H := Option.bind_eq_some_iff.mp H
  obtain ⟨t187, A40, H⟩ := H
  replace H : (if t187 = true then ((patch_Invert.f k l0).bind fun bt188 => ((tattingref24_Invert.f k l0).bind fun bt192 => (if bt188.2 = bt192.2 then ((tattingref24_Same.f k bt188.1 bt192.1).bind fun t196 => (tattinglaw25_PatchInverts.j0 k l0 bt188.1 bt188.2 (!t196))) else (tattinglaw25_PatchInverts.j0 k l0 bt188.1 bt188.2 true)))) else (some true)) = some r := H
  have A4 := Aside0.mk A40
  clear A40
  by_cases c5 : t187 = true
  ·subst c5
   have H1 : ((patch_Invert.f k l0).bind fun bt188 => ((tattingref24_Invert.f k l0).bind fun bt192 => (if bt188.2 = bt192.2 then ((tattingref24_Same.f k bt188.1 bt192.1).bind fun t196 => (tattinglaw25_PatchInverts.j0 k l0 bt188.1 bt188.2 (!t196))) else (tattinglaw25_PatchInverts.j0 k l0 bt188.1 bt188.2 true)))) = some r := by rw [if_pos rfl] at H; exact H
   clear H
   have H := H1
   clear H1
   replace H := Option.bind_eq_some_iff.mp H
   obtain ⟨⟨t188, t191⟩, A60, H⟩ := H
   replace H : ((tattingref24_Invert.f k l0).bind fun bt192 => (if t191 = bt192.2 then ((tattingref24_Same.f k t188 bt192.1).bind fun t196 => (tattinglaw25_PatchInverts.j0 k l0 t188 t191 (!t196))) else (tattinglaw25_PatchInverts.j0 k l0 t188 t191 true))) = some r := H
   have A6 := Aside0.mk A60
   clear A60
   replace H := Option.bind_eq_some_iff.mp H
   obtain ⟨⟨t192, t195⟩, A70, H⟩ := H
   replace H : (if t191 = t195 then ((tattingref24_Same.f k t188 t192).bind fun t196 => (tattinglaw25_PatchInverts.j0 k l0 t188 t191 (!t196))) else (tattinglaw25_PatchInverts.j0 k l0 t188 t191 true)) = some r := H
   have A7 := Aside0.mk A70
   clear A70
   have HC8 := Aside0.mk H
   clear H
   go_enter Try.func5, Try.ntmps5
   go_upto_region 7 with (first | ((first | (with_reducible refine gate_callee (f := 11) rfl ?_); refine goesL_ (some 9) rfl rfl Try.func11 (by kernel_rfl) rfl #[] rfl (by (try simp only [List.map_toArray, List.map_cons, List.map_nil]); first | done | rfl | (simp only [List.length_drop, List.length_take]; rfl)) ?_ | go_at_call 11); (with_reducible refine (tattinglaw25_awake.calls k  true _ A2.out rfl).mono ?_); rintro e w9 ⟨rfl, hb⟩; (try refine ⟨_, rfl, ?_⟩); have n0_ := Aside0.mk (below_step (by repeat (first | (with_reducible first | exact HB.out | apply below_alloc | apply pw_below_drewN | apply below_drew1) | exact HB.out)) hb); clear HB; have HB := n0_; clear n0_; (try clear hb); (try clear hb2); (try clear hk); (try clear hi)) | ((first | (with_reducible refine gate_callee (f := 12) rfl ?_); refine goesL_ (some 12) rfl rfl Try.func12 (by kernel_rfl) rfl #[.slice A0 l0.length c0] rfl (by (try simp only [List.map_toArray, List.map_cons, List.map_nil]); first | done | rfl | (simp only [List.length_drop, List.length_take]; rfl)) ?_ | go_at_call 12); (with_reducible refine (tattinglaw25_small.calls k _ _ l0 true _ ?side1 ?side2 A4.out).mono ?_); (case side1 => repeat (first | exact (Kd.C_below HR0.out HB.out) | (with_reducible refine Kd.C_alloc ?_ _) | (with_reducible refine Kd.C_drewN ?_ _) | (with_reducible refine Kd.C_drew ?_))); (case side2 => exact HC0.out); rintro e w' ⟨rfl, ⟨nd, rfl⟩⟩; (try refine ⟨_, rfl, ?_⟩)) | ((first | (with_reducible refine gate_callee (f := 10) rfl ?_); refine goesL_ (some 16) rfl rfl Try.func10 (by kernel_rfl) rfl #[.slice A0 l0.length c0] rfl (by (try simp only [List.map_toArray, List.map_cons, List.map_nil]); first | done | rfl | (simp only [List.length_drop, List.length_take]; rfl)) ?_ | go_at_call 10); (with_reducible refine (patch_Invert.calls k _ _ l0 t188 t191 _ ?side1 ?side2 A6.out).mono ?_); (case side1 => repeat (first | exact (Kd.C_below HR0.out (by repeat (first | (with_reducible first | exact HB.out | apply below_alloc | apply pw_below_drewN | apply below_drew1) | exact HB.out))) | (with_reducible refine Kd.C_alloc ?_ _) | (with_reducible refine Kd.C_drewN ?_ _) | (with_reducible refine Kd.C_drew ?_))); (case side2 => exact HC0.out); rintro e w10 ⟨v189, rfl, ho0, hb⟩; (try refine ⟨_, rfl, ?_⟩); have n0_ := Aside0.mk (Kd.N_lower (Kd.N_mono (ok' := fun k_ => True) (by first | exact ho0 | exact Kd.S_N ho0 | exact Kd.R_N ho0) (fun k_ hk_ => trivial)) (below_size (by repeat (first | (with_reducible first | exact HB.out | apply below_alloc | apply pw_below_drewN | apply below_drew1) | exact HB.out)))); have n1_ := Aside0.mk (below_step (by repeat (first | (with_reducible first | exact HB.out | apply below_alloc | apply pw_below_drewN | apply below_drew1) | exact HB.out)) hb); clear HB; have HO190 := n0_; have HB := n1_; clear n0_ n1_; (try clear hb); (try clear hb2); (try clear hk); (try clear hi); (try clear ho0)) | ((first | (with_reducible refine gate_callee (f := 16) rfl ?_); refine goesL_ (some 21) rfl rfl Try.func16 (by kernel_rfl) rfl #[.slice A0 l0.length c0] rfl (by (try simp only [List.map_toArray, List.map_cons, List.map_nil]); first | done | rfl | (simp only [List.length_drop, List.length_take]; rfl)) ?_ | go_at_call 16); (with_reducible refine (tattingref24_Invert.calls k (fun k_ => k_ < w.heap.size) _ _ l0 t192 t195 _ ?side1 A7.out).mono ?_); (case side1 => exact Kd.V_mk HC0.out (Kd.F_below (Kd.C_F k28_heap HR0.out) (by repeat (first | (with_reducible first | exact HB.out | apply below_alloc | apply pw_below_drewN | apply below_drew1) | exact HB.out)))); rintro e w11 ⟨v193, rfl, ho0, hb⟩; (try refine ⟨_, rfl, ?_⟩); have n0_ := Aside0.mk (Kd.N_elder' (by (with_reducible repeat (first | apply Kd.N_alloc | apply Kd.N_drewN | apply Kd.N_drew)); exact HO190.out) (Kd.N_base ho0) hb); have n1_ := Aside0.mk (Kd.N_lower (Kd.N_mono (ok' := fun k_ => some k_ ≠ (v189 : Value).ownBlock) ho0 (fun k_ hk_ => Or.elim hk_ (fun hs_ => fun e_ => Nat.not_le.2 hs_ (Kd.N_base HO190.out k_ e_.symm)) (fun hn_ => (Kd.fresh' (Kd.N_lt (by (with_reducible repeat (first | apply Kd.N_alloc | apply Kd.N_drewN | apply Kd.N_drew)); exact HO190.out)) k_ hn_)))) (below_size (by repeat (first | (with_reducible first | exact HB.out | apply below_alloc | apply pw_below_drewN | apply below_drew1) | exact HB.out)))); have n2_ := Aside0.mk (below_step (by repeat (first | (with_reducible first | exact HB.out | apply below_alloc | apply pw_below_drewN | apply below_drew1) | exact HB.out)) hb); clear HO190; clear HB; have HO190 := n0_; have HO194 := n1_; have HB := n2_; clear n0_ n1_ n2_; (try clear hb); (try clear hb2); (try clear hk); (try clear hi); (try clear ho0)))
   (try simp only [Act.put, sA,sB,sC])
   go_cut [32] (fun v32 wc => ∃ (kq : Nat) (x32_7 : Bool), v32 = .bool x32_7 ∧ Aside0 (tattinglaw25_PatchInverts.j0 kq l0 t188 t191 x32_7 = some r) ∧ Aside0 (kq ≤ k) ∧ Aside0 (Kd.N k28 28 wc w.heap.size (fun _ => True) v189 t188) ∧ Aside0 (Below w.heap.size w wc))
   case first =>
    have H := HC8.out
    clear HC8
    by_cases c12 : t191 = t195
    ·rw [if_pos c12] at H
     have c12b0 : (t191 == t195) = true := beq_iff_eq.mpr c12
     have c12b1 : (t191 != t195) = false := bne_eq_false_iff_eq.mpr c12
     clear c12
     (first | rw [c12b0] | (simp only [i64_w, i32_w]; rw [c12b0]) | skip)
     replace H := Option.bind_eq_some_iff.mp H
     obtain ⟨t196, A130, H⟩ := H
     replace H : (tattinglaw25_PatchInverts.j0 k l0 t188 t191 (!t196)) = some r := H
     have A13 := Aside0.mk A130
     clear A130
     have H' := Aside0.mk H
     clear H
     obtain ⟨Ao14, co14, eo14⟩ := Kd.N_slice HO190.out
     subst eo14
     obtain ⟨Ao15, co15, eo15⟩ := Kd.N_slice HO194.out
     subst eo15
     go_wp2_with (first | (go_at_call 17; (with_reducible refine (tattingref24_Same.calls k _ _ t188 _ _ t192 t196 _ ?side1 ?side2 ?side3 ?side4 A13.out).mono ?_); (case side1 => repeat (first | exact (Kd.N_reads' HO190.out).2.2 | (with_reducible refine Kd.C_alloc ?_ _) | (with_reducible refine Kd.C_drewN ?_ _) | (with_reducible refine Kd.C_drew ?_))); (case side2 => exact (Kd.N_reads' HO190.out).2.1); (case side3 => repeat (first | exact (Kd.N_reads' HO194.out).2.2 | (with_reducible refine Kd.C_alloc ?_ _) | (with_reducible refine Kd.C_drewN ?_ _) | (with_reducible refine Kd.C_drew ?_))); (case side4 => exact (Kd.N_reads' HO194.out).2.1); rintro e w16 ⟨rfl, hb⟩; have n0_ := Aside0.mk (Kd.N_below (by (with_reducible repeat (first | apply Kd.N_alloc | apply Kd.N_drewN | apply Kd.N_drew)); exact HO190.out) hb); have n1_ := Aside0.mk (Kd.N_below (by (with_reducible repeat (first | apply Kd.N_alloc | apply Kd.N_drewN | apply Kd.N_drew)); exact HO194.out) hb); have n2_ := Aside0.mk (below_step (by repeat (first | (with_reducible first | exact HB.out | apply below_alloc | apply pw_below_drewN | apply below_drew1) | exact HB.out)) hb); clear HO190; clear HO194; clear HB; have HO190 := n0_; have HO194 := n1_; have HB := n2_; clear n0_ n1_ n2_; (try clear hb); (try clear hb2); (try clear hk); (try clear hi)))
     go_meet
     case rel => exact ⟨_, (!t196), (by first | rfl | (simp; done) | (simp [*]; done)), H', ⟨by first | omega | exact Nat.le_refl _⟩, ⟨by (with_reducible repeat (first | apply Kd.N_alloc | apply Kd.N_drewN | apply Kd.N_drew)); exact Kd.N_mono HO190.out (fun _ hk => trivial)⟩, ⟨by repeat (first | (with_reducible first | exact HB.out | apply below_alloc | apply pw_below_drewN | apply below_drew1) | exact HB.out)⟩⟩
    ·rw [if_neg c12] at H
     have c12b0 : (t191 == t195) = false := beq_eq_false_iff_ne.mpr c12
     have c12b1 : (t191 != t195) = true := bne_iff_ne.mpr c12
     (first | rw [c12b0] | (simp only [i64_w, i32_w]; rw [c12b0]) | skip)
     have H' := Aside0.mk H
     clear H
     go_wp2
     go_meet
     case rel => exact ⟨_, (true), (by first | rfl | (simp; done) | (simp [*]; done)), H', ⟨by first | omega | exact Nat.le_refl _⟩, ⟨by (with_reducible repeat (first | apply Kd.N_alloc | apply Kd.N_drewN | apply Kd.N_drew)); exact Kd.N_mono HO190.out (fun _ hk => trivial)⟩, ⟨by repeat (first | (with_reducible first | exact HB.out | apply below_alloc | apply pw_below_drewN | apply below_drew1) | exact HB.out)⟩⟩
   case rest =>
    clear HC8
    try clear c1
    try clear p2
    try clear c3
    try clear c5
    try clear c10
    try clear c11
    try clear c12
    try clear c12b0
    try clear c12b1
    try clear c16
    obtain ⟨kq, x32_7, rfl, HA, HJ7, HO_3, HB⟩ := hcut
    cases kq with
    | zero => exact absurd HA.out (by simp [tattinglaw25_PatchInverts.j0])
    | succ kj7 =>
     have H := HA.out
     clear HA
     simp only [tattinglaw25_PatchInverts.j0] at H
     by_cases c17 : x32_7 = true
     ·subst c17
      have H1 : (some false) = some r := by rw [if_pos rfl] at H; exact H
      clear H
      have H := H1
      clear H1
      exact absurd (Option.some.inj H) (by rw [hr_]; decide)
     ·replace c17 := Bool.eq_false_iff.mpr c17
      subst c17
      have H1 : (if t191 = 0 then ((patch_Invert.f kj7 t188).bind fun bt197 => (if bt197.2 = 0 then ((tattingref24_Same.f kj7 bt197.1 l0).bind fun t201 => (some t201)) else (some false))) else (some true)) = some r := by rw [if_neg (show ¬ (false = true) by decide)] at H; exact H
      clear H
      have H := H1
      clear H1
      by_cases c18 : t191 = 0
      ·rw [if_pos c18] at H
       have c18b0 : (t191 == 0) = true := beq_iff_eq.mpr c18
       have c18b1 : (t191 != 0) = false := bne_eq_false_iff_eq.mpr c18
       clear c18
       replace H := Option.bind_eq_some_iff.mp H
       obtain ⟨⟨t197, t200⟩, A190, H⟩ := H
       replace H : (if t200 = 0 then ((tattingref24_Same.f kj7 t197 l0).bind fun t201 => (some t201)) else (some false)) = some r := H
       have A19 := Aside0.mk A190
       clear A190
       by_cases c20 : t200 = 0
       ·rw [if_pos c20] at H
        have c20b0 : (t200 == 0) = true := beq_iff_eq.mpr c20
        have c20b1 : (t200 != 0) = false := bne_eq_false_iff_eq.mpr c20
        clear c20
        replace H := Option.bind_eq_some_iff.mp H
        obtain ⟨t201, A210, H⟩ := H
        replace H : (some t201) = some r := H
        have A21 := Aside0.mk A210
        clear A210
        obtain rfl := Option.some.inj H
        obtain ⟨Ao22, co22, eo22⟩ := Kd.N_slice HO_3.out
        subst eo22
        go_wp2_with (first | ((first | (with_reducible refine gate_callee (f := 10) rfl ?_); refine goesL_ (some 37) rfl rfl Try.func10 (by kernel_rfl) rfl #[.slice Ao22 t188.length co22] rfl (by (try simp only [List.map_toArray, List.map_cons, List.map_nil]); first | done | rfl | (simp only [List.length_drop, List.length_take]; rfl)) ?_ | go_at_call 10); (with_reducible refine (patch_Invert.calls kj7 _ _ t188 t197 t200 _ ?side1 ?side2 A19.out).mono ?_); (case side1 => repeat (first | exact (Kd.N_reads' HO_3.out).2.2 | (with_reducible refine Kd.C_alloc ?_ _) | (with_reducible refine Kd.C_drewN ?_ _) | (with_reducible refine Kd.C_drew ?_))); (case side2 => exact (Kd.N_reads' HO_3.out).2.1); rintro e w23 ⟨v198, rfl, ho0, hb⟩; (try refine ⟨_, rfl, ?_⟩); have n0_ := Aside0.mk (Kd.N_elder' (by (with_reducible repeat (first | apply Kd.N_alloc | apply Kd.N_drewN | apply Kd.N_drew)); exact HO_3.out) (Kd.N_base ho0) hb); have n1_ := Aside0.mk (Kd.N_lower (Kd.N_mono (ok' := fun k_ => some k_ ≠ (.slice Ao22 t188.length co22 : Value).ownBlock) ho0 (fun k_ hk_ => (Kd.fresh' (Kd.N_lt (by (with_reducible repeat (first | apply Kd.N_alloc | apply Kd.N_drewN | apply Kd.N_drew)); exact HO_3.out)) k_ hk_))) (below_size (by repeat (first | (with_reducible first | exact HB.out | apply below_alloc | apply pw_below_drewN | apply below_drew1) | exact HB.out)))); have n2_ := Aside0.mk (below_step (by repeat (first | (with_reducible first | exact HB.out | apply below_alloc | apply pw_below_drewN | apply below_drew1) | exact HB.out)) hb); clear HO_3; clear HB; have HO_3 := n0_; have HO199 := n1_; have HB := n2_; clear n0_ n1_ n2_; (try clear hb); (try clear hb2); (try clear hk); (try clear hi); (try clear ho0); obtain ⟨Ao24, co24, eo24⟩ := Kd.N_slice HO199.out; subst eo24) | (go_at_call 17; (with_reducible refine (tattingref24_Same.calls kj7 _ _ t197 _ _ l0 t201 _ ?side1 ?side2 ?side3 ?side4 A21.out).mono ?_); (case side1 => repeat (first | exact (Kd.N_reads' HO199.out).2.2 | (with_reducible refine Kd.C_alloc ?_ _) | (with_reducible refine Kd.C_drewN ?_ _) | (with_reducible refine Kd.C_drew ?_))); (case side2 => exact (Kd.N_reads' HO199.out).2.1); (case side3 => repeat (first | exact (Kd.C_below HR0.out HB.out) | (with_reducible refine Kd.C_alloc ?_ _) | (with_reducible refine Kd.C_drewN ?_ _) | (with_reducible refine Kd.C_drew ?_))); (case side4 => exact HC0.out); rintro e w25 ⟨rfl, hb⟩; have n0_ := Aside0.mk (Kd.N_below (by (with_reducible repeat (first | apply Kd.N_alloc | apply Kd.N_drewN | apply Kd.N_drew)); exact HO_3.out) hb); have n1_ := Aside0.mk (Kd.N_below (by (with_reducible repeat (first | apply Kd.N_alloc | apply Kd.N_drewN | apply Kd.N_drew)); exact HO199.out) hb); have n2_ := Aside0.mk (below_step (by repeat (first | (with_reducible first | exact HB.out | apply below_alloc | apply pw_below_drewN | apply below_drew1) | exact HB.out)) hb); clear HO_3; clear HO199; clear HB; have HO_3 := n0_; have HO199 := n1_; have HB := n2_; clear n0_ n1_ n2_; (try clear hb); (try clear hb2); (try clear hk); (try clear hi)))
        go_ret
        exact ⟨by first | rfl | (simp [errW_none, errW_some] <;> rfl) | (simp [*, errW_none, errW_some] <;> rfl), by repeat (first | (with_reducible first | exact HB.out | apply below_alloc | apply pw_below_drewN | apply below_drew1) | exact HB.out)⟩
       ·rw [if_neg c20] at H
        have c20b0 : (t200 == 0) = false := beq_eq_false_iff_ne.mpr c20
        have c20b1 : (t200 != 0) = true := bne_iff_ne.mpr c20
        exact absurd (Option.some.inj H) (by rw [hr_]; decide)
      ·rw [if_neg c18] at H
       have c18b0 : (t191 == 0) = false := beq_eq_false_iff_ne.mpr c18
       have c18b1 : (t191 != 0) = true := bne_iff_ne.mpr c18
       obtain rfl := Option.some.inj H
       go_wp2
       go_ret
       exact ⟨by first | rfl | (simp [errW_none, errW_some] <;> rfl) | (simp [*, errW_none, errW_some] <;> rfl), by repeat (first | (with_reducible first | exact HB.out | apply below_alloc | apply pw_below_drewN | apply below_drew1) | exact HB.out)⟩
  ·replace c5 := Bool.eq_false_iff.mpr c5
   subst c5
   have H1 : (some true) = some r := by rw [if_neg (show ¬ (false = true) by decide)] at H; exact H
   clear H
   have H := H1
   clear H1
   obtain rfl := Option.some.inj H
   go_enter Try.func5, Try.ntmps5
   go_wp2_with (first | ((first | (with_reducible refine gate_callee (f := 11) rfl ?_); refine goesL_ (some 9) rfl rfl Try.func11 (by kernel_rfl) rfl #[] rfl (by (try simp only [List.map_toArray, List.map_cons, List.map_nil]); first | done | rfl | (simp only [List.length_drop, List.length_take]; rfl)) ?_ | go_at_call 11); (with_reducible refine (tattinglaw25_awake.calls k  true _ A2.out rfl).mono ?_); rintro e w26 ⟨rfl, hb⟩; (try refine ⟨_, rfl, ?_⟩); have n0_ := Aside0.mk (below_step (by repeat (first | (with_reducible first | exact HB.out | apply below_alloc | apply pw_below_drewN | apply below_drew1) | exact HB.out)) hb); clear HB; have HB := n0_; clear n0_; (try clear hb); (try clear hb2); (try clear hk); (try clear hi)) | ((first | (with_reducible refine gate_callee (f := 12) rfl ?_); refine goesL_ (some 12) rfl rfl Try.func12 (by kernel_rfl) rfl #[.slice A0 l0.length c0] rfl (by (try simp only [List.map_toArray, List.map_cons, List.map_nil]); first | done | rfl | (simp only [List.length_drop, List.length_take]; rfl)) ?_ | go_at_call 12); (with_reducible refine (tattinglaw25_small.calls k _ _ l0 false _ ?side1 ?side2 A4.out).mono ?_); (case side1 => repeat (first | exact (Kd.C_below HR0.out HB.out) | (with_reducible refine Kd.C_alloc ?_ _) | (with_reducible refine Kd.C_drewN ?_ _) | (with_reducible refine Kd.C_drew ?_))); (case side2 => exact HC0.out); rintro e w' ⟨rfl, ⟨nd, rfl⟩⟩; (try refine ⟨_, rfl, ?_⟩)))
   go_ret
   exact ⟨by first | rfl | (simp [errW_none, errW_some] <;> rfl) | (simp [*, errW_none, errW_some] <;> rfl), by repeat (first | (with_reducible first | exact HB.out | apply below_alloc | apply pw_below_drewN | apply below_drew1) | exact HB.out)⟩
 ·replace c3 := Bool.eq_false_iff.mpr c3
  subst c3
  have H1 : (some false) = some r := by rw [if_neg (show ¬ (false = true) by decide)] at H; exact H
  clear H
  have H := H1
  clear H1
  exact absurd (Option.some.inj H) (by rw [hr_]; decide)

end Go.Proofs.Ytlodaoijokfblaa.PPatchInverts
