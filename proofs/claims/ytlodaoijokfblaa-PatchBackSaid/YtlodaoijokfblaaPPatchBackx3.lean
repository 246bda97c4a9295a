/- What the given program's functions come to, each a Lean function and the walk that shows it: no condition beside those that each theorem names. -/
import Derived.Test.YtlodaoijokfblaaPPatchBackx0
import Derived.Test.YtlodaoijokfblaaPPatchBackx1
import Derived.Test.YtlodaoijokfblaaPPatchBackx2
namespace Go.Proofs.Ytlodaoijokfblaa.PPatchBack
open Go.RowKit Go.Proofs.YtlodaoijokfblaaW.PrintWords Go.Proofs.YtlodaoijokfblaaW.PrintLast Go.Proofs.YtlodaoijokfblaaW.PrintMore
attribute [local go_sem] max2_int min2_int max_two min_two max_three min_three max_four min_four   -- for this text's walks alone
set_option linter.unusedVariables false
set_option linter.unusedSimpArgs false

/-! ### tattinglaw25_PatchBack: function 6 -/
def tattinglaw25_PatchBack.j0 : Nat → List (S28) → List (List Int) → Bool → Option (Bool)
 | 0, _, _, _ => none
 | k + 1, x0, x1, x20 => if x20 = true then (some true) else ((patch_Apply.f k x0 x1).bind fun bt166 => (if bt166.2 = 0 then ((patch_Invert.f k x0).bind fun bt170 => ((patch_Apply.f k bt170.1 bt166.1).bind fun bt174 => (if bt170.2 = 0 then (if bt174.2 = 0 then ((tattingref1_SameTokens.f k bt174.1 x1).bind fun t178 => (some t178)) else (some false)) else (some false)))) else (some ((bt166.1.length : Int) == 0))))
def tattinglaw25_PatchBack.f (k : Nat) (l0 : List (S28)) (l1 : List (List Int)) : Option (Bool) := (tattinglaw25_awake.f k).bind fun t163 => (if t163 = true then ((tattinglaw25_small.f k l0).bind fun t164 => (if t164 = true then ((tattinglaw25_few.f k l1).bind fun t165 => (tattinglaw25_PatchBack.j0 k l0 l1 (!t165))) else (tattinglaw25_PatchBack.j0 k l0 l1 true))) else (some false))
theorem tattinglaw25_PatchBack.mono_l : ∀ k, (∀ y0 y1 y2, LeO (tattinglaw25_PatchBack.j0 k y0 y1 y2) (tattinglaw25_PatchBack.j0 (k + 1) y0 y1 y2))
 | 0 => fun _ _ _ r h => by simp [tattinglaw25_PatchBack.j0] at h
 | k + 1 => by
  have ih0 := tattinglaw25_PatchBack.mono_l k
  ·intro y0 y1 y2
   unfold tattinglaw25_PatchBack.j0
   repeat' first
   | (with_reducible exact ih0 _ _ _)
   | (with_reducible exact patch_Apply.mono _ _ _)
   | (with_reducible exact patch_Invert.mono _ _)
   | (with_reducible exact tattinglaw25_awake.mono _)
   | (with_reducible exact tattinglaw25_few.mono _ _)
   | (with_reducible exact tattinglaw25_small.mono _ _)
   | (with_reducible exact tattingref1_SameTokens.mono _ _ _)
   | (with_reducible exact LeO.refl _)
   | (with_reducible exact LeO.none _)
   | (with_reducible refine LeO.ite ?_ ?_)
   | (with_reducible refine LeO.bind ?_ (fun _ => ?_))
   | exact ih0 _ _ _
   | exact patch_Apply.mono _ _ _
   | exact patch_Invert.mono _ _
   | exact tattinglaw25_awake.mono _
   | exact tattinglaw25_few.mono _ _
   | exact tattinglaw25_small.mono _ _
   | exact tattingref1_SameTokens.mono _ _ _
   | exact LeO.none _
   | refine LeO.ite ?_ ?_
   | refine LeO.bind ?_ (fun _ => ?_)
theorem tattinglaw25_PatchBack.mono : ∀ a0 a1 k, LeO (tattinglaw25_PatchBack.f k a0 a1) (tattinglaw25_PatchBack.f (k + 1) a0 a1) := by
 intro a0 a1 k
 have ih0 := tattinglaw25_PatchBack.mono_l k
 unfold tattinglaw25_PatchBack.f
 repeat' first
   | (with_reducible exact ih0 _ _ _)
   | (with_reducible exact patch_Apply.mono _ _ _)
   | (with_reducible exact patch_Invert.mono _ _)
   | (with_reducible exact tattinglaw25_awake.mono _)
   | (with_reducible exact tattinglaw25_few.mono _ _)
   | (with_reducible exact tattinglaw25_small.mono _ _)
   | (with_reducible exact tattingref1_SameTokens.mono _ _ _)
   | (with_reducible exact LeO.refl _)
   | (with_reducible exact LeO.none _)
   | (with_reducible refine LeO.ite ?_ ?_)
   | (with_reducible refine LeO.bind ?_ (fun _ => ?_))
   | exact ih0 _ _ _
   | exact patch_Apply.mono _ _ _
   | exact patch_Invert.mono _ _
   | exact tattinglaw25_awake.mono _
   | exact tattinglaw25_few.mono _ _
   | exact tattinglaw25_small.mono _ _
   | exact tattingref1_SameTokens.mono _ _ _
   | exact LeO.none _
   | refine LeO.ite ?_ ?_
   | refine LeO.bind ?_ (fun _ => ?_)
set_option maxHeartbeats 8000000 in
set_option maxRecDepth 100000 in
theorem tattinglaw25_PatchBack.calls (k : Nat) (A0 : Option Addr) (c0 : Nat) (l0 : List (S28)) (A1 : Option Addr) (c1 : Nat) (l1 : List (List Int)) (r : Bool) (w : World) (hr0 : Kd.C k28 w A0 l0.length l0) (hc0 : l0.length ≤ c0) (hr1 : Kd.C (Kd.slice 5 (Kd.int .u8)) w A1 l1.length l1) (hc1 : l1.length ≤ c1) (h : tattinglaw25_PatchBack.f k l0 l1 = some r) (hr_ : r = true) :
  Calls Try.prog 6 #[.slice A0 l0.length c0, .slice A1 l1.length c1] w fun e w' => e = .returned (.bool r) ∧ Below w.heap.size w w' := by
 have HR0 := Aside0.mk hr0
 have HC0 := Aside0.mk hc0
 clear hr0 hc0
 have HR1 := Aside0.mk hr1
 have HC1 := Aside0.mk hc1
 clear hr1 hc1
 have HB := Aside0.mk (Below.refl w.heap.size w)
 have H : ((tattinglaw25_awake.f k).bind fun t163 => (if t163 = true then ((tattinglaw25_small.f k l0).bind fun t164 => (if t164 = true then ((tattinglaw25_few.f k l1).bind fun t165 => (tattinglaw25_PatchBack.j0 k l0 l1 (!t165))) else (tattinglaw25_PatchBack.j0 k l0 l1 true))) else (some false))) = some r := h
 clear h
 replace H := Option.bind_eq_some_iff.mp H
 obtain ⟨t163, A30, H⟩ := H
 replace H : (if t163 = true then ((tattinglaw25_small.f k l0).bind fun t164 => (if t164 = true then ((tattinglaw25_few.f k l1).bind fun t165 => (tattinglaw25_PatchBack.j0 k l0 l1 (!t165))) else (tattinglaw25_PatchBack.j0 k l0 l1 true))) else (some false)) = some r := H
 have A3 := Aside0.mk A30
 clear A30
 by_cases c4 : t163 = true
 ·subst c4
  have H1 : ((tattinglaw25_small.f k l0).bind fun t164 => (if t164 = true then ((tattinglaw25_few.f k l1).bind fun t165 => (tattinglaw25_PatchBack.j0 k l0 l1 (!t165))) else (tattinglaw25_PatchBack.j0 k l0 l1 true))) = some r := by rw [if_pos rfl] at H; exact H
  clear H
  have H := H1
  clear H1
  have HC5 := Aside0.mk H
  clear H
  go_enter Try.func6, Try.ntmps6
  go_upto_region 3 with (first | ((first | (with_reducible refine gate_callee (f := 11) rfl ?_); refine goesL_ (some 11) rfl rfl Try.func11 (by kernel_rfl) rfl #[] rfl (by (try simp only [List.map_toArray, List.map_cons, List.map_nil]); first | done | rfl | (simp only [List.length_drop, List.length_take]; rfl)) ?_ | go_at_call 11); (with_reducible refine (tattinglaw25_awake.calls k  true _ A3.out rfl).mono ?_); rintro e w6 ⟨rfl, hb⟩; (try refine ⟨_, rfl, ?_⟩); have n0_ := Aside0.mk (below_step (by repeat (first | (with_reducible first | exact HB.out | apply below_alloc | apply pw_below_drewN | apply below_drew1) | exact HB.out)) hb); clear HB; have HB := n0_; clear n0_; (try clear hb); (try clear hb2); (try clear hk); (try clear hi)))
  (try simp only [Act.put, sA,sB,sC])
  go_cut [20] (fun v20 wc => ∃ (kq : Nat) (x20_4 : Bool), v20 = .bool x20_4 ∧ Aside0 (tattinglaw25_PatchBack.j0 kq l0 l1 x20_4 = some r) ∧ Aside0 (kq ≤ k) ∧ Aside0 (Below w.heap.size w wc))
  case first =>
   have H := HC5.out
   clear HC5
   replace H := Option.bind_eq_some_iff.mp H
   obtain ⟨t164, A70, H⟩ := H
   replace H : (if t164 = true then ((tattinglaw25_few.f k l1).bind fun t165 => (tattinglaw25_PatchBack.j0 k l0 l1 (!t165))) else (tattinglaw25_PatchBack.j0 k l0 l1 true)) = some r := H
   have A7 := Aside0.mk A70
   clear A70
   by_cases c8 : t164 = true
   ·subst c8
    have H1 : ((tattinglaw25_few.f k l1).bind fun t165 => (tattinglaw25_PatchBack.j0 k l0 l1 (!t165))) = some r := by rw [if_pos rfl] at H; exact H
    clear H
    have H := H1
    clear H1
    replace H := Option.bind_eq_some_iff.mp H
    obtain ⟨t165, A90, H⟩ := H
    replace H : (tattinglaw25_PatchBack.j0 k l0 l1 (!t165)) = some r := H
    have A9 := Aside0.mk A90
    clear A90
    have H' := Aside0.mk H
    clear H
    go_wp2_with (first | ((first | (with_reducible refine gate_callee (f := 12) rfl ?_); refine goesL_ (some 14) rfl rfl Try.func12 (by kernel_rfl) rfl #[.slice A0 l0.length c0] rfl (by (try simp only [List.map_toArray, List.map_cons, List.map_nil]); first | done | rfl | (simp only [List.length_drop, List.length_take]; rfl)) ?_ | go_at_call 12); (with_reducible refine (tattinglaw25_small.calls k _ _ l0 true _ ?side1 ?side2 A7.out).mono ?_); (case side1 => repeat (first | exact (Kd.C_below HR0.out HB.out) | (with_reducible refine Kd.C_alloc ?_ _) | (with_reducible refine Kd.C_drewN ?_ _) | (with_reducible refine Kd.C_drew ?_))); (case side2 => exact HC0.out); rintro e w' ⟨rfl, ⟨nd, rfl⟩⟩; (try refine ⟨_, rfl, ?_⟩)) | (go_at_call 13; (with_reducible refine (tattinglaw25_few.calls k _ _ l1 t165 _ ?side1 ?side2 A9.out).mono ?_); (case side1 => repeat (first | exact (Kd.C_below HR1.out (by repeat (first | (with_reducible first | exact HB.out | apply below_alloc | apply pw_below_drewN | apply below_drew1) | exact HB.out))) | (with_reducible refine Kd.C_alloc ?_ _) | (with_reducible refine Kd.C_drewN ?_ _) | (with_reducible refine Kd.C_drew ?_))); (case side2 => exact HC1.out); rintro e w' ⟨rfl, ⟨nd, rfl⟩⟩))
    go_meet
    case rel => exact ⟨_, (!t165), (by first | rfl | (simp; done) | (simp [*]; done)), H', ⟨by first | omega | exact Nat.le_refl _⟩, ⟨by repeat (first | (with_reducible first | exact HB.out | apply below_alloc | apply pw_below_drewN | apply below_drew1) | exact HB.out)⟩⟩
   ·replace c8 := Bool.eq_false_iff.mpr c8
    subst c8
    have H1 : (tattinglaw25_PatchBack.j0 k l0 l1 true) = some r := by rw [if_neg (show ¬ (false = true) by decide)] at H; exact H
    clear H
    have H := H1
    clear H1
    have H' := Aside0.mk H
    clear H
    go_wp2_with (first | ((first | (with_reducible refine gate_callee (f := 12) rfl ?_); refine goesL_ (some 14) rfl rfl Try.func12 (by kernel_rfl) rfl #[.slice A0 l0.length c0] rfl (by (try simp only [List.map_toArray, List.map_cons, List.map_nil]); first | done | rfl | (simp only [List.length_drop, List.length_take]; rfl)) ?_ | go_at_call 12); (with_reducible refine (tattinglaw25_small.calls k _ _ l0 false _ ?side1 ?side2 A7.out).mono ?_); (case side1 => repeat (first | exact (Kd.C_below HR0.out HB.out) | (with_reducible refine Kd.C_alloc ?_ _) | (with_reducible refine Kd.C_drewN ?_ _) | (with_reducible refine Kd.C_drew ?_))); (case side2 => exact HC0.out); rintro e w' ⟨rfl, ⟨nd, rfl⟩⟩; (try refine ⟨_, rfl, ?_⟩)))
    go_meet
    case rel => exact ⟨_, (true), (by first | rfl | (simp; done) | (simp [*]; done)), H', ⟨by first | omega | exact Nat.le_refl _⟩, ⟨by repeat (first | (with_reducible first | exact HB.out | apply below_alloc | apply pw_below_drewN | apply below_drew1) | exact HB.out)⟩⟩
  case rest =>
   clear HC5
   try clear c1
   try clear p2
   try clear c4
   try clear c6
   try clear c8
   obtain ⟨kq, x20_4, rfl, HA, HJ4, HB⟩ := hcut
   cases kq with
   | zero => exact absurd HA.out (by simp [tattinglaw25_PatchBack.j0])
   | succ kj4 =>
    have H := HA.out
    clear HA
    simp only [tattinglaw25_PatchBack.j0] at H
    by_cases c10 : x20_4 = true
    ·subst c10
     have H1 : (some true) = some r := by rw [if_pos rfl] at H; exact H
     clear H
     have H := H1
     clear H1
     obtain rfl := Option.some.inj H
     go_wp2
     go_ret
     exact ⟨by first | rfl | (simp [errW_none, errW_some] <;> rfl) | (simp [*, errW_none, errW_some] <;> rfl), by repeat (first | (with_reducible first | exact HB.out | apply below_alloc | apply pw_below_drewN | apply below_drew1) | exact HB.out)⟩
    ·replace c10 := Bool.eq_false_iff.mpr c10
     subst c10
     have H1 : ((patch_Apply.f kj4 l0 l1).bind fun bt166 => (if bt166.2 = 0 then ((patch_Invert.f kj4 l0).bind fun bt170 => ((patch_Apply.f kj4 bt170.1 bt166.1).bind fun bt174 => (if bt170.2 = 0 then (if bt174.2 = 0 then ((tattingref1_SameTokens.f kj4 bt174.1 l1).bind fun t178 => (some t178)) else (some false)) else (some false)))) else (some ((bt166.1.length : Int) == 0)))) = some r := by rw [if_neg (show ¬ (false = true) by decide)] at H; exact H
     clear H
     have H := H1
     clear H1
     replace H := Option.bind_eq_some_iff.mp H
     obtain ⟨⟨t166, t169⟩, A110, H⟩ := H
     replace H : (if t169 = 0 then ((patch_Invert.f kj4 l0).bind fun bt170 => ((patch_Apply.f kj4 bt170.1 t166).bind fun bt174 => (if bt170.2 = 0 then (if bt174.2 = 0 then ((tattingref1_SameTokens.f kj4 bt174.1 l1).bind fun t178 => (some t178)) else (some false)) else (some false)))) else (some ((t166.length : Int) == 0))) = some r := H
     have A11 := Aside0.mk A110
     clear A110
     by_cases c12 : t169 = 0
     ·rw [if_pos c12] at H
      have c12b0 : (t169 == 0) = true := beq_iff_eq.mpr c12
      have c12b1 : (t169 != 0) = false := bne_eq_false_iff_eq.mpr c12
      clear c12
      replace H := Option.bind_eq_some_iff.mp H
      obtain ⟨⟨t170, t173⟩, A130, H⟩ := H
      replace H : ((patch_Apply.f kj4 t170 t166).bind fun bt174 => (if t173 = 0 then (if bt174.2 = 0 then ((tattingref1_SameTokens.f kj4 bt174.1 l1).bind fun t178 => (some t178)) else (some false)) else (some false))) = some r := H
      have A13 := Aside0.mk A130
      clear A130
      replace H := Option.bind_eq_some_iff.mp H
      obtain ⟨⟨t174, t177⟩, A140, H⟩ := H
      replace H : (if t173 = 0 then (if t177 = 0 then ((tattingref1_SameTokens.f kj4 t174 l1).bind fun t178 => (some t178)) else (some false)) else (some false)) = some r := H
      have A14 := Aside0.mk A140
      clear A140
      by_cases c15 : t173 = 0
      ·rw [if_pos c15] at H
       have c15b0 : (t173 == 0) = true := beq_iff_eq.mpr c15
       have c15b1 : (t173 != 0) = false := bne_eq_false_iff_eq.mpr c15
       clear c15
       by_cases c16 : t177 = 0
       ·rw [if_pos c16] at H
        have c16b0 : (t177 == 0) = true := beq_iff_eq.mpr c16
        have c16b1 : (t177 != 0) = false := bne_eq_false_iff_eq.mpr c16
        clear c16
        replace H := Option.bind_eq_some_iff.mp H
        obtain ⟨t178, A170, H⟩ := H
        replace H : (some t178) = some r := H
        have A17 := Aside0.mk A170
        clear A170
        obtain rfl := Option.some.inj H
        go_wp2_with (first | ((first | (with_reducible refine gate_callee (f := 9) rfl ?_); refine goesL_ (some 24) rfl rfl Try.func9 (by kernel_rfl) rfl #[.slice A0 l0.length c0, .slice A1 l1.length c1] rfl (by (try simp only [List.map_toArray, List.map_cons, List.map_nil]); first | done | rfl | (simp only [List.length_drop, List.length_take]; rfl)) ?_ | go_at_call 9); (with_reducible refine (patch_Apply.calls kj4 _ _ l0 _ _ l1 t166 t169 _ ?side1 ?side2 ?side3 ?side4 A11.out).mono ?_); (case side1 => repeat (first | exact (Kd.C_below HR0.out HB.out) | (with_reducible refine Kd.C_alloc ?_ _) | (with_reducible refine Kd.C_drewN ?_ _) | (with_reducible refine Kd.C_drew ?_))); (case side2 => exact HC0.out); (case side3 => repeat (first | exact (Kd.C_below HR1.out HB.out) | (with_reducible refine Kd.C_alloc ?_ _) | (with_reducible refine Kd.C_drewN ?_ _) | (with_reducible refine Kd.C_drew ?_))); (case side4 => exact HC1.out); rintro e w18 ⟨v167, rfl, ho0, hb⟩; (try refine ⟨_, rfl, ?_⟩); have n0_ := Aside0.mk (Kd.N_lower (Kd.N_mono (ok' := fun k_ => True) (by first | exact ho0 | exact Kd.S_N ho0 | exact Kd.R_N ho0) (fun k_ hk_ => trivial)) (below_size (by repeat (first | (with_reducible first | exact HB.out | apply below_alloc | apply pw_below_drewN | apply below_drew1) | exact HB.out)))); have n1_ := Aside0.mk (below_step (by repeat (first | (with_reducible first | exact HB.out | apply below_alloc | apply pw_below_drewN | apply below_drew1) | exact HB.out)) hb); clear HB; have HO168 := n0_; have HB := n1_; clear n0_ n1_; (try clear hb); (try clear hb2); (try clear hk); (try clear hi); (try clear ho0)) | ((first | (with_reducible refine gate_callee (f := 10) rfl ?_); refine goesL_ (some 34) rfl rfl Try.func10 (by kernel_rfl) rfl #[.slice A0 l0.length c0] rfl (by (try simp only [List.map_toArray, List.map_cons, List.map_nil]); first | done | rfl | (simp only [List.length_drop, List.length_take]; rfl)) ?_ | go_at_call 10); (with_reducible refine (patch_Invert.calls kj4 _ _ l0 t170 t173 _ ?side1 ?side2 A13.out).mono ?_); (case side1 => repeat (first | exact (Kd.C_below HR0.out HB.out) | (with_reducible refine Kd.C_alloc ?_ _) | (with_reducible refine Kd.C_drewN ?_ _) | (with_reducible refine Kd.C_drew ?_))); (case side2 => exact HC0.out); rintro e w19 ⟨v171, rfl, ho0, hb⟩; (try refine ⟨_, rfl, ?_⟩); have n0_ := Aside0.mk (Kd.N_elder' (by (with_reducible repeat (first | apply Kd.N_alloc | apply Kd.N_drewN | apply Kd.N_drew)); exact HO168.out) (Kd.N_base ho0) hb); have n1_ := Aside0.mk (Kd.N_lower (Kd.N_mono (ok' := fun k_ => some k_ ≠ (v167 : Value).ownBlock) ho0 (fun k_ hk_ => (Kd.fresh' (Kd.N_lt (by (with_reducible repeat (first | apply Kd.N_alloc | apply Kd.N_drewN | apply Kd.N_drew)); exact HO168.out)) k_ hk_))) (below_size (by repeat (first | (with_reducible first | exact HB.out | apply below_alloc | apply pw_below_drewN | apply below_drew1) | exact HB.out)))); have n2_ := Aside0.mk (below_step (by repeat (first | (with_reducible first | exact HB.out | apply below_alloc | apply pw_below_drewN | apply below_drew1) | exact HB.out)) hb); clear HO168; clear HB; have HO168 := n0_; have HO172 := n1_; have HB := n2_; clear n0_ n1_ n2_; (try clear hb); (try clear hb2); (try clear hk); (try clear hi); (try clear ho0); obtain ⟨Ao20, co20, eo20⟩ := Kd.N_slice HO172.out; subst eo20; obtain ⟨Ao21, co21, eo21⟩ := Kd.N_slice HO168.out; subst eo21) | ((first | (with_reducible refine gate_callee (f := 9) rfl ?_); refine goesL_ (some 40) rfl rfl Try.func9 (by kernel_rfl) rfl #[.slice Ao20 t170.length co20, .slice Ao21 t166.length co21] rfl (by (try simp only [List.map_toArray, List.map_cons, List.map_nil]); first | done | rfl | (simp only [List.length_drop, List.length_take]; rfl)) ?_ | go_at_call 9); (with_reducible refine (patch_Apply.calls kj4 _ _ t170 _ _ t166 t174 t177 _ ?side1 ?side2 ?side3 ?side4 A14.out).mono ?_); (case side1 => repeat (first | exact (Kd.N_reads' HO172.out).2.2 | (with_reducible refine Kd.C_alloc ?_ _) | (with_reducible refine Kd.C_drewN ?_ _) | (with_reducible refine Kd.C_drew ?_))); (case side2 => exact (Kd.N_reads' HO172.out).2.1); (case side3 => repeat (first | exact (Kd.N_reads' HO168.out).2.2 | (with_reducible refine Kd.C_alloc ?_ _) | (with_reducible refine Kd.C_drewN ?_ _) | (with_reducible refine Kd.C_drew ?_))); (case side4 => exact (Kd.N_reads' HO168.out).2.1); rintro e w22 ⟨v175, rfl, ho0, hb⟩; (try refine ⟨_, rfl, ?_⟩); have n0_ := Aside0.mk (Kd.N_elder' (by (with_reducible repeat (first | apply Kd.N_alloc | apply Kd.N_drewN | apply Kd.N_drew)); exact HO168.out) (Kd.N_base ho0) hb); have n1_ := Aside0.mk (Kd.N_elder' (by (with_reducible repeat (first | apply Kd.N_alloc | apply Kd.N_drewN | apply Kd.N_drew)); exact HO172.out) (Kd.N_base ho0) hb); have n2_ := Aside0.mk (Kd.N_lower (Kd.N_mono (ok' := fun k_ => some k_ ≠ (.slice Ao21 t166.length co21 : Value).ownBlock ∧ some k_ ≠ (.slice Ao20 t170.length co20 : Value).ownBlock) ho0 (fun k_ hk_ => ⟨(Kd.fresh' (Kd.N_lt (by (with_reducible repeat (first | apply Kd.N_alloc | apply Kd.N_drewN | apply Kd.N_drew)); exact HO168.out)) k_ hk_), (Kd.fresh' (Kd.N_lt (by (with_reducible repeat (first | apply Kd.N_alloc | apply Kd.N_drewN | apply Kd.N_drew)); exact HO172.out)) k_ hk_)⟩)) (below_size (by repeat (first | (with_reducible first | exact HB.out | apply below_alloc | apply pw_below_drewN | apply below_drew1) | exact HB.out)))); have n3_ := Aside0.mk (below_step (by repeat (first | (with_reducible first | exact HB.out | apply below_alloc | apply pw_below_drewN | apply below_drew1) | exact HB.out)) hb); clear HO168; clear HO172; clear HB; have HO168 := n0_; have HO172 := n1_; have HO176 := n2_; have HB := n3_; clear n0_ n1_ n2_ n3_; (try clear hb); (try clear hb2); (try clear hk); (try clear hi); (try clear ho0); obtain ⟨Ao23, co23, eo23⟩ := Kd.N_slice HO176.out; subst eo23) | (go_at_call 15; (with_reducible refine (tattingref1_SameTokens.calls kj4 _ _ t174 _ _ l1 t178 _ ?side1 ?side2 ?side3 ?side4 A17.out).mono ?_); (case side1 => repeat (first | exact (Kd.N_reads' HO176.out).2.2 | (with_reducible refine Kd.C_alloc ?_ _) | (with_reducible refine Kd.C_drewN ?_ _) | (with_reducible refine Kd.C_drew ?_))); (case side2 => exact (Kd.N_reads' HO176.out).2.1); (case side3 => repeat (first | exact (Kd.C_below HR1.out HB.out) | (with_reducible refine Kd.C_alloc ?_ _) | (with_reducible refine Kd.C_drewN ?_ _) | (with_reducible refine Kd.C_drew ?_))); (case side4 => exact HC1.out); rintro e w' ⟨rfl, ⟨nd, rfl⟩⟩))
        go_ret
        exact ⟨by first | rfl | (simp [errW_none, errW_some] <;> rfl) | (simp [*, errW_none, errW_some] <;> rfl), by repeat (first | (with_reducible first | exact HB.out | apply below_alloc | apply pw_below_drewN | apply below_drew1) | exact HB.out)⟩
       ·rw [if_neg c16] at H
        have c16b0 : (t177 == 0) = false := beq_eq_false_iff_ne.mpr c16
        have c16b1 : (t177 != 0) = true := bne_iff_ne.mpr c16
        exact absurd (Option.some.inj H) (by rw [hr_]; decide)
      ·rw [if_neg c15] at H
       have c15b0 : (t173 == 0) = false := beq_eq_false_iff_ne.mpr c15
       have c15b1 : (t173 != 0) = true := bne_iff_ne.mpr c15
       exact absurd (Option.some.inj H) (by rw [hr_]; decide)
     ·rw [if_neg c12] at H
      have c12b0 : (t169 == 0) = false := beq_eq_false_iff_ne.mpr c12
      have c12b1 : (t169 != 0) = true := bne_iff_ne.mpr c12
      obtain rfl := Option.some.inj H
      go_wp2_with (first | ((first | (with_reducible refine gate_callee (f := 9) rfl ?_); refine goesL_ (some 24) rfl rfl Try.func9 (by kernel_rfl) rfl #[.slice A0 l0.length c0, .slice A1 l1.length c1] rfl (by (try simp only [List.map_toArray, List.map_cons, List.map_nil]); first | done | rfl | (simp only [List.length_drop, List.length_take]; rfl)) ?_ | go_at_call 9); (with_reducible refine (patch_Apply.calls kj4 _ _ l0 _ _ l1 t166 t169 _ ?side1 ?side2 ?side3 ?side4 A11.out).mono ?_); (case side1 => repeat (first | exact (Kd.C_below HR0.out HB.out) | (with_reducible refine Kd.C_alloc ?_ _) | (with_reducible refine Kd.C_drewN ?_ _) | (with_reducible refine Kd.C_drew ?_))); (case side2 => exact HC0.out); (case side3 => repeat (first | exact (Kd.C_below HR1.out HB.out) | (with_reducible refine Kd.C_alloc ?_ _) | (with_reducible refine Kd.C_drewN ?_ _) | (with_reducible refine Kd.C_drew ?_))); (case side4 => exact HC1.out); rintro e w24 ⟨v167, rfl, ho0, hb⟩; (try refine ⟨_, rfl, ?_⟩); have n0_ := Aside0.mk (Kd.N_lower (Kd.N_mono (ok' := fun k_ => True) (by first | exact ho0 | exact Kd.S_N ho0 | exact Kd.R_N ho0) (fun k_ hk_ => trivial)) (below_size (by repeat (first | (with_reducible first | exact HB.out | apply below_alloc | apply pw_below_drewN | apply below_drew1) | exact HB.out)))); have n1_ := Aside0.mk (below_step (by repeat (first | (with_reducible first | exact HB.out | apply below_alloc | apply pw_below_drewN | apply below_drew1) | exact HB.out)) hb); clear HB; have HO168 := n0_; have HB := n1_; clear n0_ n1_; (try clear hb); (try clear hb2); (try clear hk); (try clear hi); (try clear ho0); obtain ⟨Ao25, co25, eo25⟩ := Kd.N_slice HO168.out; subst eo25))
      go_ret
      exact ⟨by first | rfl | (simp [errW_none, errW_some] <;> rfl) | (simp [*, errW_none, errW_some] <;> rfl), by repeat (first | (with_reducible first | exact HB.out | apply below_alloc | apply pw_below_drewN | apply below_drew1) | exact HB.out)⟩
 ·replace c4 := Bool.eq_false_iff.mpr c4
  subst c4
  have H1 : (some false) = some r := by rw [if_neg (show ¬ (false = true) by decide)] at H; exact H
  clear H
  have H := H1
  clear H1
  exact absurd (Option.some.inj H) (by rw [hr_]; decide)

end Go.Proofs.Ytlodaoijokfblaa.PPatchBack
