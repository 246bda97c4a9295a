/- What the given program's functions come to, each a Lean function and the walk that shows it: no condition beside those that each theorem names. -/
import Derived.Test.YtlodaoijokfblaaPPatchMadex0
import Derived.Test.YtlodaoijokfblaaPPatchMadex3
import Derived.Test.YtlodaoijokfblaaPPatchMadex4
namespace Go.Proofs.Ytlodaoijokfblaa.PPatchMade
open Go.RowKit Go.Proofs.YtlodaoijokfblaaW.PrintWords Go.Proofs.YtlodaoijokfblaaW.PrintLast Go.Proofs.YtlodaoijokfblaaW.PrintMore
attribute [local go_sem] max2_int min2_int max_two min_two max_three min_three max_four min_four   -- for this text's walks alone
set_option linter.unusedVariables false
set_option linter.unusedSimpArgs false

/-! ### tattingref24_Make: function 19 -/
def tattingref24_Make.l0 : Nat → List (List Int) → List (List Int) → List (S54) → List (S28) → Int → Int → Int → Option ((List (S28)) × Int)
 | 0, _, _, _, _, _, _, _ => none
 | k + 1, x0, x1, x2, x11, x12, x13, x14 => if x14 ≤ (x2.length : Int) then (if x14 < (x2.length : Int) then (if 0 ≤ x14 then (if ((rd_T54 x2 x14).f0) > x12 then (if 0 ≤ x12 then (if x12 ≤ ((rd_T54 x2 x14).f0) then (if ((rd_T54 x2 x14).f0) ≤ (x0.length : Int) then (if 0 ≤ x13 then (if x13 ≤ ((rd_T54 x2 x14).f1) then (if ((rd_T54 x2 x14).f1) ≤ (x1.length : Int) then (if x11.length < 2513169434916 then (tattingref24_Make.l0 k x0 x1 x2 (x11 ++ [(⟨x12, ((x0.take (((rd_T54 x2 x14).f0) : Int).toNat).drop (x12 : Int).toNat), ((x1.take (((rd_T54 x2 x14).f1) : Int).toNat).drop (x13 : Int).toNat)⟩ : S28)]) (wrap64 (((rd_T54 x2 x14).f0) + 1)) (wrap64 (((rd_T54 x2 x14).f1) + 1)) (wrap64 (x14 + 1))) else (none)) else (none)) else (none)) else (none)) else (none)) else (none)) else (none)) else (if ((rd_T54 x2 x14).f1) > x13 then (if 0 ≤ x12 then (if x12 ≤ ((rd_T54 x2 x14).f0) then (if ((rd_T54 x2 x14).f0) ≤ (x0.length : Int) then (if 0 ≤ x13 then (if x13 ≤ ((rd_T54 x2 x14).f1) then (if ((rd_T54 x2 x14).f1) ≤ (x1.length : Int) then (if x11.length < 2513169434916 then (tattingref24_Make.l0 k x0 x1 x2 (x11 ++ [(⟨x12, ((x0.take (((rd_T54 x2 x14).f0) : Int).toNat).drop (x12 : Int).toNat), ((x1.take (((rd_T54 x2 x14).f1) : Int).toNat).drop (x13 : Int).toNat)⟩ : S28)]) (wrap64 (((rd_T54 x2 x14).f0) + 1)) (wrap64 (((rd_T54 x2 x14).f1) + 1)) (wrap64 (x14 + 1))) else (none)) else (none)) else (none)) else (none)) else (none)) else (none)) else (none)) else (tattingref24_Make.l0 k x0 x1 x2 x11 (wrap64 (((rd_T54 x2 x14).f0) + 1)) (wrap64 (((rd_T54 x2 x14).f1) + 1)) (wrap64 (x14 + 1))))) else (none)) else (if (x0.length : Int) > x12 then (if 0 ≤ x12 then (if x12 ≤ (x0.length : Int) then (if (x0.length : Int) ≤ (x0.length : Int) then (if 0 ≤ x13 then (if x13 ≤ (x1.length : Int) then (if (x1.length : Int) ≤ (x1.length : Int) then (if x11.length < 2513169434916 then (tattingref24_Make.l0 k x0 x1 x2 (x11 ++ [(⟨x12, ((x0.take ((x0.length : Int) : Int).toNat).drop (x12 : Int).toNat), ((x1.take ((x1.length : Int) : Int).toNat).drop (x13 : Int).toNat)⟩ : S28)]) (wrap64 ((x0.length : Int) + 1)) (wrap64 ((x1.length : Int) + 1)) (wrap64 (x14 + 1))) else (none)) else (none)) else (none)) else (none)) else (none)) else (none)) else (none)) else (if (x1.length : Int) > x13 then (if 0 ≤ x12 then (if x12 ≤ (x0.length : Int) then (if (x0.length : Int) ≤ (x0.length : Int) then (if 0 ≤ x13 then (if x13 ≤ (x1.length : Int) then (if (x1.length : Int) ≤ (x1.length : Int) then (if x11.length < 2513169434916 then (tattingref24_Make.l0 k x0 x1 x2 (x11 ++ [(⟨x12, ((x0.take ((x0.length : Int) : Int).toNat).drop (x12 : Int).toNat), ((x1.take ((x1.length : Int) : Int).toNat).drop (x13 : Int).toNat)⟩ : S28)]) (wrap64 ((x0.length : Int) + 1)) (wrap64 ((x1.length : Int) + 1)) (wrap64 (x14 + 1))) else (none)) else (none)) else (none)) else (none)) else (none)) else (none)) else (none)) else (tattingref24_Make.l0 k x0 x1 x2 x11 (wrap64 ((x0.length : Int) + 1)) (wrap64 ((x1.length : Int) + 1)) (wrap64 (x14 + 1)))))) else (some (x11, 0))
def tattingref24_Make.f (k : Nat) (l0 : List (List Int)) (l1 : List (List Int)) (l2 : List (S54)) : Option ((List (S28)) × Int) := (tattingref1_Two.f k l0 l1).bind fun bt255 => ((tattingref7_Good.f k bt255.1 bt255.2.1 l2).bind fun t262 => (if t262 = true then (tattingref24_Make.l0 k l0 l1 l2 ([] : List (S28)) 0 0 0) else (some (([] : List (S28)), 1))))
theorem tattingref24_Make.mono_l : ∀ k, (∀ y0 y1 y2 y3 y4 y5 y6, LeO (tattingref24_Make.l0 k y0 y1 y2 y3 y4 y5 y6) (tattingref24_Make.l0 (k + 1) y0 y1 y2 y3 y4 y5 y6))
 | 0 => fun _ _ _ _ _ _ _ r h => by simp [tattingref24_Make.l0] at h
 | k + 1 => by
  have ih0 := tattingref24_Make.mono_l k
  ·intro y0 y1 y2 y3 y4 y5 y6
   unfold tattingref24_Make.l0
   repeat' first
   | (with_reducible exact ih0 _ _ _ _ _ _ _)
   | (with_reducible exact tattingref1_Two.mono _ _ _)
   | (with_reducible exact tattingref7_Good.mono _ _ _ _)
   | (with_reducible exact LeO.refl _)
   | (with_reducible exact LeO.none _)
   | (with_reducible refine LeO.ite ?_ ?_)
   | (with_reducible refine LeO.bind ?_ (fun _ => ?_))
   | exact ih0 _ _ _ _ _ _ _
   | exact tattingref1_Two.mono _ _ _
   | exact tattingref7_Good.mono _ _ _ _
   | exact LeO.none _
   | refine LeO.ite ?_ ?_
   | refine LeO.bind ?_ (fun _ => ?_)
theorem tattingref24_Make.mono : ∀ a0 a1 a2 k, LeO (tattingref24_Make.f k a0 a1 a2) (tattingref24_Make.f (k + 1) a0 a1 a2) := by
 intro a0 a1 a2 k
 have ih0 := tattingref24_Make.mono_l k
 unfold tattingref24_Make.f
 repeat' first
   | (with_reducible exact ih0 _ _ _ _ _ _ _)
   | (with_reducible exact tattingref1_Two.mono _ _ _)
   | (with_reducible exact tattingref7_Good.mono _ _ _ _)
   | (with_reducible exact LeO.refl _)
   | (with_reducible exact LeO.none _)
   | (with_reducible refine LeO.ite ?_ ?_)
   | (with_reducible refine LeO.bind ?_ (fun _ => ?_))
   | exact ih0 _ _ _ _ _ _ _
   | exact tattingref1_Two.mono _ _ _
   | exact tattingref7_Good.mono _ _ _ _
   | exact LeO.none _
   | refine LeO.ite ?_ ?_
   | refine LeO.bind ?_ (fun _ => ?_)
def tattingref24_Make.T11 : Bool × List (List Nat × List Nat) := (true, [([], []), ([], []), ([0, 1], [0, 1]), ([2], [2]), ([3], [3]), ([], []), ([], []), ([5, 6], [5, 6]), ([7], [7]), ([8], [8]), ([4, 0, 1, 2, 3, 4], [4]), ([9, 10, 0, 1, 2, 3, 4, 5, 6, 7, 8, 9, 10], [9])])
def tattingref24_Make.B11 : List Nat := [0, 0, 3, 7, 15, 0, 0, 96, 224, 480, 31, 2047]
theorem tattingref24_Make.tab11 : rtab .any (opsOf Try.f19 11) = tattingref24_Make.T11 := by kernel_rfl
theorem tattingref24_Make.bits11 : waitsOk tattingref24_Make.T11.2 tattingref24_Make.B11 = true := by kernel_rfl
def tattingref24_Make.T13 : Bool × List (List Nat × List Nat) := (true, [([], []), ([], []), ([], []), ([], []), ([], []), ([2, 3, 4], [2, 3, 4]), ([], []), ([], []), ([], []), ([6, 7, 8], [6, 7, 8]), ([1, 5, 9], [1, 5, 9]), ([10], [10]), ([0, 11], [0, 11]), ([12, 12, 0, 1, 2, 3, 4, 5, 6, 7, 8, 9, 10, 11, 12], [0, 12])])
def tattingref24_Make.B13 : List Nat := [0, 0, 0, 0, 0, 28, 0, 0, 0, 448, 1022, 2046, 4095, 8191]
theorem tattingref24_Make.tab13 : rtab .any (opsOf Try.f19 13) = tattingref24_Make.T13 := by kernel_rfl
theorem tattingref24_Make.bits13 : waitsOk tattingref24_Make.T13.2 tattingref24_Make.B13 = true := by kernel_rfl
set_option maxHeartbeats 8000000 in
set_option maxRecDepth 100000 in
theorem tattingref24_Make.calls (k : Nat) (P0_ : Nat → Prop) (A0 : Option Addr) (c0 : Nat) (l0 : List (List Int)) (P1_ : Nat → Prop) (A1 : Option Addr) (c1 : Nat) (l1 : List (List Int)) (A2 : Option Addr) (c2 : Nat) (l2 : List (S54)) (r1 : List (S28)) (r2 : Int) (w : World) (hs0 : Kd.V (Kd.slice 5 (Kd.int .u8)) 22 w w.heap.size (fun k_ => P0_ k_) (.slice A0 l0.length c0) l0) (hs1 : Kd.V (Kd.slice 5 (Kd.int .u8)) 22 w w.heap.size (fun k_ => P1_ k_) (.slice A1 l1.length c1) l1) (hr2 : Kd.C k54 w A2 l2.length l2) (hc2 : l2.length ≤ c2) (h : tattingref24_Make.f k l0 l1 l2 = some (r1, r2)) :
  Calls Try.prog 19 #[.slice A0 l0.length c0, .slice A1 l1.length c1, .slice A2 l2.length c2] w fun e w' => ∃ v0_ : Value, e = .returned (.tuple #[v0_, .int .i64 r2]) ∧ Kd.N k28 28 w' w.heap.size (fun k_ => ((P0_ k_ ∨ P1_ k_) ∨ w.heap.size ≤ k_)) v0_ r1 ∧ Below w.heap.size w w' := by
 have hu28 := Try.underlying28
 have HO0 := Aside0.mk (show Kd.V (Kd.slice 5 (Kd.int .u8)) 22 w w.heap.size (fun k_ => ((P0_ k_ ∨ P1_ k_) ∨ w.heap.size ≤ k_)) (.slice A0 l0.length c0) l0 from Kd.V_mono hs0 (fun k_ hk => .inl (.inl hk)))
 have HO1 := Aside0.mk (show Kd.V (Kd.slice 5 (Kd.int .u8)) 22 w w.heap.size (fun k_ => ((P0_ k_ ∨ P1_ k_) ∨ w.heap.size ≤ k_)) (.slice A1 l1.length c1) l1 from Kd.V_mono hs1 (fun k_ hk => .inl (.inr hk)))
 have HR2 := Aside0.mk hr2
 have HC2 := Aside0.mk hc2
 clear hr2 hc2
 have HB := Aside0.mk (Below.refl w.heap.size w)
 have H : ((tattingref1_Two.f k l0 l1).bind fun bt255 => ((tattingref7_Good.f k bt255.1 bt255.2.1 l2).bind fun t262 => (if t262 = true then (tattingref24_Make.l0 k l0 l1 l2 ([] : List (S28)) 0 0 0) else (some (([] : List (S28)), 1))))) = some (r1, r2) := h
 clear h
 replace H := Option.bind_eq_some_iff.mp H
 obtain ⟨⟨t255, t258, t261⟩, A40, H⟩ := H
 replace H : ((tattingref7_Good.f k t255 t258 l2).bind fun t262 => (if t262 = true then (tattingref24_Make.l0 k l0 l1 l2 ([] : List (S28)) 0 0 0) else (some (([] : List (S28)), 1)))) = some (r1, r2) := H
 have A4 := Aside0.mk A40
 clear A40
 replace H := Option.bind_eq_some_iff.mp H
 obtain ⟨t262, A50, H⟩ := H
 replace H : (if t262 = true then (tattingref24_Make.l0 k l0 l1 l2 ([] : List (S28)) 0 0 0) else (some (([] : List (S28)), 1))) = some (r1, r2) := H
 have A5 := Aside0.mk A50
 clear A50
 by_cases c6 : t262 = true
 ·subst c6
  have H1 : (tattingref24_Make.l0 k l0 l1 l2 ([] : List (S28)) 0 0 0) = some (r1, r2) := by rw [if_pos rfl] at H; exact H
  clear H
  have H := H1
  clear H1
  have H' := Aside0.mk H
  clear H
  go_enter Try.func19, Try.ntmps19
  try dsimp only [List.append]
  go_wp2_with (first | ((first | (with_reducible refine gate_callee (f := 18) rfl ?_); refine goesL_ (some 20) rfl rfl Try.func18 (by kernel_rfl) rfl #[.slice A0 l0.length c0, .slice A1 l1.length c1] rfl (by (try simp only [List.map_toArray, List.map_cons, List.map_nil]); first | done | rfl | (simp only [List.length_drop, List.length_take]; rfl)) ?_ | go_at_call 18); (with_reducible refine (tattingref1_Two.calls k (fun k_ => ((P0_ k_ ∨ P1_ k_) ∨ w.heap.size ≤ k_)) _ _ l0 (fun k_ => ((P0_ k_ ∨ P1_ k_) ∨ w.heap.size ≤ k_)) _ _ l1 t255 t258 t261 _ ?side1 ?side2 A4.out).mono ?_); (case side1 => exact HO0.out); (case side2 => exact HO1.out); rintro e w7 ⟨v256, v259, rfl, ho0, ho1, hb⟩; (try refine ⟨_, rfl, ?_⟩); have n0_ := Aside0.mk (Kd.V_mono (Kd.V_told (Kd.V_told (Kd.V_old (by (with_reducible repeat (first | apply Kd.V_alloc | apply Kd.V_drewN | apply Kd.V_drew)); exact HO0.out) hb) (Kd.R_base ho0)) (Kd.R_base ho1)) (fun _ h_ => h_.1)); have n1_ := Aside0.mk (Kd.V_mono (Kd.V_told (Kd.V_told (Kd.V_old (by (with_reducible repeat (first | apply Kd.V_alloc | apply Kd.V_drewN | apply Kd.V_drew)); exact HO1.out) hb) (Kd.R_base ho0)) (Kd.R_base ho1)) (fun _ h_ => h_.1)); have n2_ := Aside0.mk (Kd.R_lower (Kd.R_newM (M := fun k_ => (w.heap.size ≤ k_)) (Kd.R_mono (ok' := fun k_ => some k_ ≠ (v259 : Value).ownBlock) ho0 (fun _ hk_ => hk_.2)) (below_size (by repeat (first | (with_reducible first | exact HB.out | apply below_alloc | apply pw_below_drewN | apply below_drew1) | exact HB.out))) (fun k_ h_ => h_)) (below_size (by repeat (first | (with_reducible first | exact HB.out | apply below_alloc | apply pw_below_drewN | apply below_drew1) | exact HB.out)))); have n3_ := Aside0.mk (Kd.R_lower (Kd.R_newM (M := fun k_ => (w.heap.size ≤ k_)) (Kd.R_mono (ok' := fun k_ => some k_ ≠ (v256 : Value).ownBlock) ho1 (fun _ hk_ => hk_.2)) (below_size (by repeat (first | (with_reducible first | exact HB.out | apply below_alloc | apply pw_below_drewN | apply below_drew1) | exact HB.out))) (fun k_ h_ => h_)) (below_size (by repeat (first | (with_reducible first | exact HB.out | apply below_alloc | apply pw_below_drewN | apply below_drew1) | exact HB.out)))); have n4_ := Aside0.mk (below_step (by repeat (first | (with_reducible first | exact HB.out | apply below_alloc | apply pw_below_drewN | apply below_drew1) | exact HB.out)) hb); clear HO0; clear HO1; clear HB; have HO0 := n0_; have HO1 := n1_; have HO257 := n2_; have HO260 := n3_; have HB := n4_; clear n0_ n1_ n2_ n3_ n4_; (try clear hb); (try clear hb2); (try clear hk); (try clear hi); (try clear ho0); (try clear ho1); obtain ⟨Ao8, co8, eo8⟩ := Kd.R_slice HO257.out; subst eo8; obtain ⟨Ao9, co9, eo9⟩ := Kd.R_slice HO260.out; subst eo9) | ((first | (with_reducible refine gate_callee (f := 29) rfl ?_); refine goesL_ (some 27) rfl rfl Try.func29 (by kernel_rfl) rfl #[.slice Ao8 t255.length co8, .slice Ao9 t258.length co9, .slice A2 l2.length c2] rfl (by (try simp only [List.map_toArray, List.map_cons, List.map_nil]); first | done | rfl | (simp only [List.length_drop, List.length_take]; rfl)) ?_ | go_at_call 29); (with_reducible refine (tattingref7_Good.calls k _ _ t255 _ _ t258 _ _ l2 true _ ?side1 ?side2 ?side3 ?side4 ?side5 ?side6 A5.out).mono ?_); (case side1 => repeat (first | exact (Kd.R_reads' HO257.out).2.2 | (with_reducible refine Kd.C_alloc ?_ _) | (with_reducible refine Kd.C_drewN ?_ _) | (with_reducible refine Kd.C_drew ?_))); (case side2 => exact (Kd.R_reads' HO257.out).2.1); (case side3 => repeat (first | exact (Kd.R_reads' HO260.out).2.2 | (with_reducible refine Kd.C_alloc ?_ _) | (with_reducible refine Kd.C_drewN ?_ _) | (with_reducible refine Kd.C_drew ?_))); (case side4 => exact (Kd.R_reads' HO260.out).2.1); (case side5 => repeat (first | exact (Kd.C_below HR2.out HB.out) | (with_reducible refine Kd.C_alloc ?_ _) | (with_reducible refine Kd.C_drewN ?_ _) | (with_reducible refine Kd.C_drew ?_))); (case side6 => exact HC2.out); rintro e w10 ⟨rfl, hb⟩; (try refine ⟨_, rfl, ?_⟩); have n0_ := Aside0.mk (Kd.V_below (by (with_reducible repeat (first | apply Kd.V_alloc | apply Kd.V_drewN | apply Kd.V_drew)); exact HO0.out) hb); have n1_ := Aside0.mk (Kd.V_below (by (with_reducible repeat (first | apply Kd.V_alloc | apply Kd.V_drewN | apply Kd.V_drew)); exact HO1.out) hb); have n2_ := Aside0.mk (Kd.R_below (by (with_reducible repeat (first | apply Kd.R_alloc | apply Kd.R_drewN | apply Kd.R_drew)); exact HO257.out) hb); have n3_ := Aside0.mk (Kd.R_below (by (with_reducible repeat (first | apply Kd.R_alloc | apply Kd.R_drewN | apply Kd.R_drew)); exact HO260.out) hb); have n4_ := Aside0.mk (below_step (by repeat (first | (with_reducible first | exact HB.out | apply below_alloc | apply pw_below_drewN | apply below_drew1) | exact HB.out)) hb); clear HO0; clear HO1; clear HO257; clear HO260; clear HB; have HO0 := n0_; have HO1 := n1_; have HO257 := n2_; have HO260 := n3_; have HB := n4_; clear n0_ n1_ n2_ n3_ n4_; (try clear hb); (try clear hb2); (try clear hk); (try clear hi)))
  go_loopg [11, 12, 13, 14] k (fun kq v11 v12 v13 v14 w' => ∃ (x11_1 : List (S28)) (x12_1 : Int) (x13_1 : Int) (x14_1 : Int), v12 = .int .i64 x12_1 ∧ v13 = .int .i64 x13_1 ∧ v14 = .int .i64 x14_1 ∧ Aside0 (tattingref24_Make.l0 kq l0 l1 l2 x11_1 x12_1 x13_1 x14_1 = some (r1, r2)) ∧ Aside0 (kq ≤ k) ∧ Aside0 (Kd.V (Kd.slice 5 (Kd.int .u8)) 22 w' w.heap.size (fun k_ => ((P0_ k_ ∨ P1_ k_) ∨ w.heap.size ≤ k_) ∧ some k_ ≠ (v11 : Value).ownBlock) (.slice A0 l0.length c0) l0) ∧ Aside0 (Kd.V (Kd.slice 5 (Kd.int .u8)) 22 w' w.heap.size (fun k_ => ((P0_ k_ ∨ P1_ k_) ∨ w.heap.size ≤ k_) ∧ some k_ ≠ (v11 : Value).ownBlock) (.slice A1 l1.length c1) l1) ∧ Aside0 (Kd.N k28 28 w' w.heap.size (fun k_ => ((P0_ k_ ∨ P1_ k_) ∨ w.heap.size ≤ k_)) v11 x11_1) ∧ Aside0 (Below w.heap.size w w'))
  case atStart => exact ⟨(([] : List (S28))), (0), (0), (0), (by first | rfl | (simp; done) | (simp [*]; done)), (by first | rfl | (simp; done) | (simp [*]; done)), (by first | rfl | (simp; done) | (simp [*]; done)), H', ⟨Nat.le_refl _⟩, ⟨by (with_reducible repeat (first | apply Kd.V_alloc | apply Kd.V_drewN | apply Kd.V_drew)); exact Kd.V_mono HO0.out (fun _ hk => ⟨hk.1.1, (by simp [Value.ownBlock])⟩)⟩, ⟨by (with_reducible repeat (first | apply Kd.V_alloc | apply Kd.V_drewN | apply Kd.V_drew)); exact Kd.V_mono HO1.out (fun _ hk => ⟨hk.1.1, (by simp [Value.ownBlock])⟩)⟩, ⟨by first | exact Kd.R_nil _ _ _ _ _ | exact Kd.N_nil _ _ _ _ _ | exact Kd.V_nil _ _ _ _ _ | exact Kd.Q_nil _ _ _ _ _ | exact Kd.S_nil _ _ _ _ _⟩, ⟨by repeat (first | (with_reducible first | exact HB.out | apply below_alloc | apply pw_below_drewN | apply below_drew1) | exact HB.out)⟩⟩
  case round =>
   clear H'
   try clear c1
   try clear c2
   try clear p2
   try clear c6
   obtain ⟨x11_1, x12_1, x13_1, x14_1, rfl, rfl, rfl, HA, HK1, HO_0, HO_1, HO_11, HB⟩ := hrel
   cases gk with
   | zero => exact absurd HA.out (by simp [tattingref24_Make.l0])
   | succ k1 =>
    have H := HA.out
    clear HA
    simp only [tattingref24_Make.l0] at H
    by_cases c11 : x14_1 ≤ (l2.length : Int)
    ·rw [if_pos c11] at H
     have c11b0 : decide (x14_1 ≤ (l2.length : Int)) = true := decide_eq_true c11
     clear c11
     by_cases c12 : x14_1 < (l2.length : Int)
     ·rw [if_pos c12] at H
      have c12b0 : decide (x14_1 < (l2.length : Int)) = true := decide_eq_true c12
      clear c12
      by_cases c13 : 0 ≤ x14_1
      ·rw [if_pos c13] at H
       have c13b0 : decide (0 ≤ x14_1) = true := decide_eq_true c13
       clear c13
       by_cases c14 : ((rd_T54 l2 x14_1).f0) > x12_1
       ·rw [if_pos c14] at H
        have c14b0 : decide (x12_1 < ((rd_T54 l2 x14_1).f0)) = true := decide_eq_true c14
        clear c14
        by_cases c15 : 0 ≤ x12_1
        ·rw [if_pos c15] at H
         have c15b0 := eq_true c15
         have c15b1 : decide (0 ≤ x12_1) = true := decide_eq_true c15
         clear c15
         by_cases c16 : x12_1 ≤ ((rd_T54 l2 x14_1).f0)
         ·rw [if_pos c16] at H
          have c16b0 := eq_true c16
          have c16b1 : decide (x12_1 ≤ ((rd_T54 l2 x14_1).f0)) = true := decide_eq_true c16
          clear c16
          by_cases c17 : ((rd_T54 l2 x14_1).f0) ≤ (l0.length : Int)
          ·rw [if_pos c17] at H
           have c17b0 := eq_true c17
           have c17b1 : decide (((rd_T54 l2 x14_1).f0) ≤ (l0.length : Int)) = true := decide_eq_true c17
           clear c17
           obtain ⟨y265, hy265⟩ : ∃ y_ : List (List Int), y_ = ((l0.take (((rd_T54 l2 x14_1).f0) : Int).toNat).drop (x12_1 : Int).toNat) := ⟨_, rfl⟩
           replace H : (if 0 ≤ x13_1 then (if x13_1 ≤ ((rd_T54 l2 x14_1).f1) then (if ((rd_T54 l2 x14_1).f1) ≤ (l1.length : Int) then (if x11_1.length < 2513169434916 then (tattingref24_Make.l0 k1 l0 l1 l2 (x11_1 ++ [(⟨x12_1, y265, ((l1.take (((rd_T54 l2 x14_1).f1) : Int).toNat).drop (x13_1 : Int).toNat)⟩ : S28)]) (wrap64 (((rd_T54 l2 x14_1).f0) + 1)) (wrap64 (((rd_T54 l2 x14_1).f1) + 1)) (wrap64 (x14_1 + 1))) else (none)) else (none)) else (none)) else (none)) = some (r1, r2) := by first | (rw [hy265]; with_reducible exact H) | (have H2_ := (Option.bind_some _ _).symm.trans H; rw [hy265]; with_reducible exact H2_) | (have H2_ := (Option.bind_some _ _).symm.trans H; with_reducible exact H2_) | with_reducible exact H | (rw [hy265]; exact H) | exact H
           have Ny265 := Aside0.mk hy265
           clear hy265
           by_cases c18 : 0 ≤ x13_1
           ·rw [if_pos c18] at H
            have c18b0 := eq_true c18
            have c18b1 : decide (0 ≤ x13_1) = true := decide_eq_true c18
            clear c18
            by_cases c19 : x13_1 ≤ ((rd_T54 l2 x14_1).f1)
            ·rw [if_pos c19] at H
             have c19b0 := eq_true c19
             have c19b1 : decide (x13_1 ≤ ((rd_T54 l2 x14_1).f1)) = true := decide_eq_true c19
             clear c19
             by_cases c20 : ((rd_T54 l2 x14_1).f1) ≤ (l1.length : Int)
             ·rw [if_pos c20] at H
              have c20b0 := eq_true c20
              have c20b1 : decide (((rd_T54 l2 x14_1).f1) ≤ (l1.length : Int)) = true := decide_eq_true c20
              clear c20
              obtain ⟨y270, hy270⟩ : ∃ y_ : List (List Int), y_ = ((l1.take (((rd_T54 l2 x14_1).f1) : Int).toNat).drop (x13_1 : Int).toNat) := ⟨_, rfl⟩
              replace H : (if x11_1.length < 2513169434916 then (tattingref24_Make.l0 k1 l0 l1 l2 (x11_1 ++ [(⟨x12_1, y265, y270⟩ : S28)]) (wrap64 (((rd_T54 l2 x14_1).f0) + 1)) (wrap64 (((rd_T54 l2 x14_1).f1) + 1)) (wrap64 (x14_1 + 1))) else (none)) = some (r1, r2) := by first | (rw [hy270]; with_reducible exact H) | (have H2_ := (Option.bind_some _ _).symm.trans H; rw [hy270]; with_reducible exact H2_) | (have H2_ := (Option.bind_some _ _).symm.trans H; with_reducible exact H2_) | with_reducible exact H | (rw [hy270]; exact H) | exact H
              have Ny270 := Aside0.mk hy270
              clear hy270
              by_cases c21 : x11_1.length < 2513169434916
              ·rw [if_pos c21] at H
               have LMc21 := Aside0.mk c21
               clear c21
               obtain ⟨y275, hy275⟩ : ∃ y_ : List (S28), y_ = (x11_1 ++ [(⟨x12_1, y265, y270⟩ : S28)]) := ⟨_, rfl⟩
               replace H : (tattingref24_Make.l0 k1 l0 l1 l2 y275 (wrap64 (((rd_T54 l2 x14_1).f0) + 1)) (wrap64 (((rd_T54 l2 x14_1).f1) + 1)) (wrap64 (x14_1 + 1))) = some (r1, r2) := by first | (rw [hy275]; with_reducible exact H) | (have H2_ := (Option.bind_some _ _).symm.trans H; rw [hy275]; with_reducible exact H2_) | (have H2_ := (Option.bind_some _ _).symm.trans H; with_reducible exact H2_) | with_reducible exact H | (rw [hy275]; exact H) | exact H
               have Ny275 := Aside0.mk hy275
               clear hy275
               have H' := Aside0.mk H
               clear H
               try go_wp2
               have n0_ := Aside0.mk (Kd.V_drew HO_0.out)
               have n1_ := Aside0.mk (Kd.V_drew HO_1.out)
               have n2_ := Aside0.mk (Kd.N_drew HO_11.out)
               have n3_ := Aside0.mk (below_drew1 HB.out)
               clear HO_0
               clear HO_1
               clear HO_11
               clear HB
               have HO_0 := n0_
               have HO_1 := n1_
               have HO_11 := n2_
               have HB := n3_
               clear n0_ n1_ n2_ n3_
               have p263 : 0 ≤ (x14_1 : Int) := of_decide_eq_true (by first | (with_reducible assumption) | assumption)
               have q263 : x14_1 < (l2.length : Int) := of_decide_eq_true (by first | (with_reducible assumption) | assumption)
               obtain ⟨ad263, e263, hx263_0, hx263_1⟩ := at_T54 HR2.out x14_1 p263 q263
               have hw263_1 := hx263_1
               have hw263_0 := hx263_0
               cases e263
               replace hx263_0 := (HB.out.cell (World.block_lt_of_cell? w _ hx263_0)).trans hx263_0
               replace hx263_1 := (HB.out.cell (World.block_lt_of_cell? w _ hx263_1)).trans hx263_1
               replace p263 := eq_true p263
               replace q263 := eq_true q263
               have p264 : 0 ≤ (x14_1 : Int) := of_decide_eq_true (by first | (with_reducible assumption) | assumption)
               have q264 : x14_1 < (l2.length : Int) := of_decide_eq_true (by first | (with_reducible assumption) | assumption)
               obtain ⟨ad264, e264, hx264_0, hx264_1⟩ := at_T54 HR2.out x14_1 p264 q264
               have hw264_1 := hx264_1
               have hw264_0 := hx264_0
               obtain rfl : ad263 = ad264 := (by injection e264)
               replace hx264_0 := (HB.out.cell (World.block_lt_of_cell? w _ hx264_0)).trans hx264_0
               replace hx264_1 := (HB.out.cell (World.block_lt_of_cell? w _ hx264_1)).trans hx264_1
               replace p264 := eq_true p264
               replace q264 := eq_true q264
               refine start_ (n := 12) (S := fun w' => w'.cell? (ad263.add ((x14_1).toNat * 2)) = some (.int .i64 ((rd_T54 l2 x14_1).f0)) ∧ w'.cell? ⟨(ad263.add ((x14_1).toNat * 2)).block, (ad263.add ((x14_1).toNat * 2)).off + 1, none⟩ = some (.int .i64 ((rd_T54 l2 x14_1).f1)) ∧ w'.cell? (ad263.add ((x14_1).toNat * 2)) = some (.int .i64 ((rd_T54 l2 x14_1).f0)) ∧ w'.cell? ⟨(ad263.add ((x14_1).toNat * 2)).block, (ad263.add ((x14_1).toNat * 2)).off + 1, none⟩ = some (.int .i64 ((rd_T54 l2 x14_1).f1))) (ds := []) #[N,N,N,N,N,N,N,N,N,N,N,N] (by kernel_rfl) rfl rfl ⟨((HB.out.cell (World.block_lt_of_cell? w _ hw263_0)).trans hw263_0), ((HB.out.cell (World.block_lt_of_cell? w _ hw263_1)).trans hw263_1), ((HB.out.cell (World.block_lt_of_cell? w _ hw264_0)).trans hw264_0), ((HB.out.cell (World.block_lt_of_cell? w _ hw264_1)).trans hw264_1)⟩ (fun hHeld => ?_); refine with_tabW tattingref24_Make.tab11 tattingref24_Make.bits11 (fun HT_ HW_ => ?_)
               generalize wr.drew = w22 at HO_0 HO_1 HO_11 HB hx263_0 hx263_1 hx264_0 hx264_1 hHeld ⊢
               refine pure_ (i := 0) (N := some 43) (v := ?_) (a' := ?_) #[Y,N,N,N,N,N,N,N,N,N,N,N] rfl rfl (any_of HT_.out (by kernel_rfl)) (fun _ _ _ h => h) (Or.inl ⟨by rfl, ?_⟩) ?_ ?_; rotate_left
               ·intro w'; go_simp; with_reducible rfl
               rotate_left
               ·simp only [Act.put, sA,sB,sC, i64_w, i32_w]; rfl
               refine pure_ (i := 1) (N := some 44) (v := ?_) (a' := ?_) #[Y,Y,N,N,N,N,N,N,N,N,N,N] rfl rfl (any_of HT_.out (by kernel_rfl)) (fun _ _ _ h => h) (Or.inl ⟨by rfl, ?_⟩) ?_ ?_; rotate_left
               ·intro w'; go_simp; with_reducible rfl
               rotate_left
               ·simp only [Act.put, sA,sB,sC, i64_w, i32_w]; rfl
               refine pure_ (i := 2) (N := some 45) (v := ?_) (a' := ?_) #[Y,Y,Y,N,N,N,N,N,N,N,N,N] rfl rfl (any_of HT_.out (by kernel_rfl)) (fun _ _ _ h => h) (Or.inl ⟨by rfl, ?_⟩) ?_ ?_; rotate_left
               ·intro w'; go_simp; with_reducible rfl
               rotate_left
               ·simp only [Act.put, sA,sB,sC, i64_w, i32_w]; rfl
               refine pure_ (i := 3) (N := some 46) (v := ?_) (a' := ?_) #[Y,Y,Y,Y,N,N,N,N,N,N,N,N] rfl rfl (any_of HT_.out (by kernel_rfl)) (fun _ _ _ h => h) (Or.inl ⟨by rfl, ?_⟩) ?_ ?_; rotate_left
               ·intro w'; go_simp; with_reducible rfl
               rotate_left
               ·simp only [Act.put, sA,sB,sC, i64_w, i32_w]; rfl
               refine pure_ (i := 5) (N := some 48) (v := ?_) (a' := ?_) #[Y,Y,Y,Y,N,Y,N,N,N,N,N,N] rfl rfl (any_of HT_.out (by kernel_rfl)) (fun _ _ _ h => h) (Or.inl ⟨by rfl, ?_⟩) ?_ ?_; rotate_left
               ·intro w'; go_simp; with_reducible rfl
               rotate_left
               ·simp only [Act.put, sA,sB,sC, i64_w, i32_w]; rfl
               refine pure_ (i := 6) (N := some 49) (v := ?_) (a' := ?_) #[Y,Y,Y,Y,N,Y,Y,N,N,N,N,N] rfl rfl (any_of HT_.out (by kernel_rfl)) (fun _ _ _ h => h) (Or.inl ⟨by rfl, ?_⟩) ?_ ?_; rotate_left
               ·intro w'; go_simp; with_reducible rfl
               rotate_left
               ·simp only [Act.put, sA,sB,sC, i64_w, i32_w]; rfl
               refine pure_ (i := 7) (N := some 50) (v := ?_) (a' := ?_) #[Y,Y,Y,Y,N,Y,Y,Y,N,N,N,N] rfl rfl (any_of HT_.out (by kernel_rfl)) (fun _ _ _ h => h) (Or.inl ⟨by rfl, ?_⟩) ?_ ?_; rotate_left
               ·intro w'; go_simp; with_reducible rfl
               rotate_left
               ·simp only [Act.put, sA,sB,sC, i64_w, i32_w]; rfl
               refine pure_ (i := 8) (N := some 51) (v := ?_) (a' := ?_) #[Y,Y,Y,Y,N,Y,Y,Y,Y,N,N,N] rfl rfl (any_of HT_.out (by kernel_rfl)) (fun _ _ _ h => h) (Or.inl ⟨by rfl, ?_⟩) ?_ ?_; rotate_left
               ·intro w'; go_simp; with_reducible rfl
               rotate_left
               ·simp only [Act.put, sA,sB,sC, i64_w, i32_w]; rfl
               refine take_ (i := 4) (N := some 47) (v := ?_) (a' := ?_) #[Y,Y,Y,Y,Y,Y,Y,Y,Y,N,N,N] rfl rfl (take_ofW HT_.out HW_.out (by kernel_rfl)) (fun _ _ _ h => h) (Or.inl ⟨by rfl, ?_⟩) hHeld ?_ ?_; rotate_left
               ·rintro w' ⟨s0, s1, s2, s3⟩; go_simp; with_reducible rfl
               rotate_left
               ·simp only [Act.put, sA,sB,sC, i64_w, i32_w]; rfl
               refine pure_ (i := 10) (N := some 15) (v := ?_) (a' := ?_) #[Y,Y,Y,Y,Y,Y,Y,Y,Y,N,Y,N] rfl rfl (any_of HT_.out (by kernel_rfl)) (fun _ _ _ h => h) (Or.inl ⟨by rfl, ?_⟩) ?_ ?_; rotate_left
               ·intro w'; go_simp; with_reducible rfl
               rotate_left
               ·simp only [Act.put, sA,sB,sC, i64_w, i32_w]; rfl
               refine take_ (i := 9) (N := some 52) (v := ?_) (a' := ?_) #[Y,Y,Y,Y,Y,Y,Y,Y,Y,Y,Y,N] rfl rfl (take_ofW HT_.out HW_.out (by kernel_rfl)) (fun _ _ _ h => h) (Or.inl ⟨by rfl, ?_⟩) hHeld ?_ ?_; rotate_left
               ·rintro w' ⟨s0, s1, s2, s3⟩; go_simp; with_reducible rfl
               rotate_left
               ·simp only [Act.put, sA,sB,sC, i64_w, i32_w]; rfl
               refine pure_ (i := 11) (N := some 16) (v := ?_) (a' := ?_) #[Y,Y,Y,Y,Y,Y,Y,Y,Y,Y,Y,Y] rfl rfl (any_of HT_.out (by kernel_rfl)) (fun _ _ _ h => h) (Or.inl ⟨by rfl, ?_⟩) ?_ ?_; rotate_left
               ·intro w'; go_simp; with_reducible rfl
               rotate_left
               ·simp only [Act.put, sA,sB,sC, i64_w, i32_w]; rfl
               refine done_ (done_of HT_.out (by kernel_rfl)) ?_
               try go_wp2
               have n0_ := Aside0.mk (Kd.V_drew HO_0.out)
               have n1_ := Aside0.mk (Kd.V_drew HO_1.out)
               have n2_ := Aside0.mk (Kd.N_drew HO_11.out)
               have n3_ := Aside0.mk (below_drew1 HB.out)
               clear HO_0
               clear HO_1
               clear HO_11
               clear HB
               have HO_0 := n0_
               have HO_1 := n1_
               have HO_11 := n2_
               have HB := n3_
               clear n0_ n1_ n2_ n3_
               have q24 : (((rd_T54 l2 x14_1).f0) : Int) ≤ ((l0.length : Int) : Int) := of_decide_eq_true (by first | (with_reducible assumption) | assumption)
               obtain ⟨i024, hi024, _, hsz24, _⟩ := info_parts info22
               have hroom24 : l0.length ≤ c0 := (Kd.V_reads' HO_0.out).2.1
               have hC24 : Kd.F (Kd.slice 5 (Kd.int .u8)) _ _ A0 l0.length l0 := (Kd.V_at (base := w.heap.size) HO_0.out).2.2
               have ql24 : (x12_1 : Int) ≤ (((rd_T54 l2 x14_1).f0) : Int) := of_decide_eq_true (by first | (with_reducible assumption) | assumption)
               have q024 : (0 : Int) ≤ (x12_1 : Int) := of_decide_eq_true (by first | (with_reducible assumption) | assumption)
               have hcut24 := cut_mid (P := Try.prog) 23 22 .i64 .i64 Try.underlying23 hi024 1 hsz24 A0 l0.length c0 x12_1 ((rd_T54 l2 x14_1).f0) q024 ql24 q24 hroom24
               have hr24 := Kd.F_mid (lo := (x12_1 : Int).toNat) (hi := (((rd_T54 l2 x14_1).f0) : Int).toNat) (c := c0) hC24 (by omega) (by omega) hroom24
               obtain ⟨A24, hA24⟩ : ∃ z_, z_ = (if c0 = (x12_1 : Int).toNat then A0 else (A0 : Option Addr).map (·.add ((x12_1 : Int).toNat * 1))) := ⟨_, rfl⟩
               obtain ⟨c24, hc24⟩ : ∃ z_, z_ = c0 - (x12_1 : Int).toNat := ⟨_, rfl⟩
               have hy24 : y265.length = (((rd_T54 l2 x14_1).f0) : Int).toNat - (x12_1 : Int).toNat := (by rw [Ny265.out, List.length_drop, List.length_take] <;> omega)
               rw [show ((l0).take (((rd_T54 l2 x14_1).f0) : Int).toNat).drop (x12_1 : Int).toNat = y265 from Ny265.out.symm] at hr24
               replace hr24 : Kd.F (Kd.slice 5 (Kd.int .u8)) _ _ A24 y265.length y265 := (by rw [hA24]; exact hr24)
               rw [← hy24, ← hA24, ← hc24] at hcut24
               have HO269 := Aside0.mk (show Kd.V (Kd.slice 5 (Kd.int .u8)) 22 _ w.heap.size _ (.slice A24 y265.length c24) y265 from Kd.V_mk (by rw [hy24, hc24]; exact Nat.sub_le_sub_right (Nat.le_trans (by omega) hroom24) _) hr24)
               have HC269 := Aside0.mk (show y265.length ≤ c24 from by rw [hy24, hc24]; exact Nat.sub_le_sub_right (Nat.le_trans (by omega) hroom24) _)
               clear hr24 hC24 hroom24 hi024 hsz24 hc24
               have KY24 := Aside0.mk hy24
               have KA24 := Aside0.mk hA24
               clear hy24 hA24
               replace q24 := eq_true q24
               have q25 : (((rd_T54 l2 x14_1).f1) : Int) ≤ ((l1.length : Int) : Int) := of_decide_eq_true (by first | (with_reducible assumption) | assumption)
               obtain ⟨i025, hi025, _, hsz25, _⟩ := info_parts info22
               have hroom25 : l1.length ≤ c1 := (Kd.V_reads' HO_1.out).2.1
               have hC25 : Kd.F (Kd.slice 5 (Kd.int .u8)) _ _ A1 l1.length l1 := (Kd.V_at (base := w.heap.size) HO_1.out).2.2
               have ql25 : (x13_1 : Int) ≤ (((rd_T54 l2 x14_1).f1) : Int) := of_decide_eq_true (by first | (with_reducible assumption) | assumption)
               have q025 : (0 : Int) ≤ (x13_1 : Int) := of_decide_eq_true (by first | (with_reducible assumption) | assumption)
               have hcut25 := cut_mid (P := Try.prog) 23 22 .i64 .i64 Try.underlying23 hi025 1 hsz25 A1 l1.length c1 x13_1 ((rd_T54 l2 x14_1).f1) q025 ql25 q25 hroom25
               have hr25 := Kd.F_mid (lo := (x13_1 : Int).toNat) (hi := (((rd_T54 l2 x14_1).f1) : Int).toNat) (c := c1) hC25 (by omega) (by omega) hroom25
               obtain ⟨A25, hA25⟩ : ∃ z_, z_ = (if c1 = (x13_1 : Int).toNat then A1 else (A1 : Option Addr).map (·.add ((x13_1 : Int).toNat * 1))) := ⟨_, rfl⟩
               obtain ⟨c25, hc25⟩ : ∃ z_, z_ = c1 - (x13_1 : Int).toNat := ⟨_, rfl⟩
               have hy25 : y270.length = (((rd_T54 l2 x14_1).f1) : Int).toNat - (x13_1 : Int).toNat := (by rw [Ny270.out, List.length_drop, List.length_take] <;> omega)
               rw [show ((l1).take (((rd_T54 l2 x14_1).f1) : Int).toNat).drop (x13_1 : Int).toNat = y270 from Ny270.out.symm] at hr25
               replace hr25 : Kd.F (Kd.slice 5 (Kd.int .u8)) _ _ A25 y270.length y270 := (by rw [hA25]; exact hr25)
               rw [← hy25, ← hA25, ← hc25] at hcut25
               have HO274 := Aside0.mk (show Kd.V (Kd.slice 5 (Kd.int .u8)) 22 _ w.heap.size _ (.slice A25 y270.length c25) y270 from Kd.V_mk (by rw [hy25, hc25]; exact Nat.sub_le_sub_right (Nat.le_trans (by omega) hroom25) _) hr25)
               have HC274 := Aside0.mk (show y270.length ≤ c25 from by rw [hy25, hc25]; exact Nat.sub_le_sub_right (Nat.le_trans (by omega) hroom25) _)
               clear hr25 hC25 hroom25 hi025 hsz25 hc25
               have KY25 := Aside0.mk hy25
               have KA25 := Aside0.mk hA25
               clear hy25 hA25
               replace q25 := eq_true q25
               refine start_ (n := 14) (S := fun w' => True) (ds := []) #[N,N,N,N,N,N,N,N,N,N,N,N,N,N] (by kernel_rfl) rfl rfl trivial (fun hHeld => ?_); refine with_tabW tattingref24_Make.tab13 tattingref24_Make.bits13 (fun HT_ HW_ => ?_)
               generalize w22.drew = w23 at HO_0 HO_1 HO_11 HB HO269 HO274 hHeld ⊢
               refine pure_ (i := 0) (N := some 61) (v := ?_) (a' := ?_) #[Y,N,N,N,N,N,N,N,N,N,N,N,N,N] rfl rfl (any_of HT_.out (by kernel_rfl)) (fun _ _ _ h => h) (Or.inl ⟨by rfl, ?_⟩) ?_ ?_; rotate_left
               ·intro w'; go_simp; with_reducible rfl
               rotate_left
               ·simp only [Act.put, sA,sB,sC, i64_w, i32_w]; rfl
               refine pure_ (i := 1) (N := some 62) (v := ?_) (a' := ?_) #[Y,Y,N,N,N,N,N,N,N,N,N,N,N,N] rfl rfl (any_of HT_.out (by kernel_rfl)) (fun _ _ _ h => h) (Or.inl ⟨by rfl, ?_⟩) ?_ ?_; rotate_left
               ·intro w'; go_simp; with_reducible rfl
               rotate_left
               ·simp only [Act.put, sA,sB,sC, i64_w, i32_w]; rfl
               refine pure_ (i := 2) (N := some 63) (v := ?_) (a' := ?_) #[Y,Y,Y,N,N,N,N,N,N,N,N,N,N,N] rfl rfl (any_of HT_.out (by kernel_rfl)) (fun _ _ _ h => h) (Or.inl ⟨by rfl, ?_⟩) ?_ ?_; rotate_left
               ·intro w'; go_simp; with_reducible rfl
               rotate_left
               ·simp only [Act.put, sA,sB,sC, i64_w, i32_w]; rfl
               refine pure_ (i := 3) (N := some 64) (v := ?_) (a' := ?_) #[Y,Y,Y,Y,N,N,N,N,N,N,N,N,N,N] rfl rfl (any_of HT_.out (by kernel_rfl)) (fun _ _ _ h => h) (Or.inl ⟨by rfl, ?_⟩) ?_ ?_; rotate_left
               ·intro w'; go_simp; with_reducible rfl
               rotate_left
               ·simp only [Act.put, sA,sB,sC, i64_w, i32_w]; rfl
               refine pure_ (i := 4) (N := some 65) (v := ?_) (a' := ?_) #[Y,Y,Y,Y,Y,N,N,N,N,N,N,N,N,N] rfl rfl (any_of HT_.out (by kernel_rfl)) (fun _ _ _ h => h) (Or.inl ⟨by rfl, ?_⟩) ?_ ?_; rotate_left
               ·intro w'; go_simp; with_reducible rfl
               rotate_left
               ·simp only [Act.put, sA,sB,sC, i64_w, i32_w]; rfl
               refine pure_ (i := 5) (N := some 66) (v := ?_) (a' := ?_) #[Y,Y,Y,Y,Y,Y,N,N,N,N,N,N,N,N] rfl rfl (any_of HT_.out (by kernel_rfl)) (fun _ _ _ h => h) (Or.inl ⟨by rfl, ?_⟩) ?_ ?_; rotate_left
               ·intro w'; go_simp; with_reducible rfl
               rotate_left
               ·simp only [Act.put, sA,sB,sC, i64_w, i32_w]; rfl
               refine pure_ (i := 6) (N := some 67) (v := ?_) (a' := ?_) #[Y,Y,Y,Y,Y,Y,Y,N,N,N,N,N,N,N] rfl rfl (any_of HT_.out (by kernel_rfl)) (fun _ _ _ h => h) (Or.inl ⟨by rfl, ?_⟩) ?_ ?_; rotate_left
               ·intro w'; go_simp; with_reducible rfl
               rotate_left
               ·simp only [Act.put, sA,sB,sC, i64_w, i32_w]; rfl
               refine pure_ (i := 7) (N := some 68) (v := ?_) (a' := ?_) #[Y,Y,Y,Y,Y,Y,Y,Y,N,N,N,N,N,N] rfl rfl (any_of HT_.out (by kernel_rfl)) (fun _ _ _ h => h) (Or.inl ⟨by rfl, ?_⟩) ?_ ?_; rotate_left
               ·intro w'; go_simp; with_reducible rfl
               rotate_left
               ·simp only [Act.put, sA,sB,sC, i64_w, i32_w]; rfl
               refine pure_ (i := 8) (N := some 69) (v := ?_) (a' := ?_) #[Y,Y,Y,Y,Y,Y,Y,Y,Y,N,N,N,N,N] rfl rfl (any_of HT_.out (by kernel_rfl)) (fun _ _ _ h => h) (Or.inl ⟨by rfl, ?_⟩) ?_ ?_; rotate_left
               ·intro w'; go_simp; with_reducible rfl
               rotate_left
               ·simp only [Act.put, sA,sB,sC, i64_w, i32_w]; rfl
               refine pure_ (i := 9) (N := some 70) (v := ?_) (a' := ?_) #[Y,Y,Y,Y,Y,Y,Y,Y,Y,Y,N,N,N,N] rfl rfl (any_of HT_.out (by kernel_rfl)) (fun _ _ _ h => h) (Or.inl ⟨by rfl, ?_⟩) ?_ ?_; rotate_left
               ·intro w'; go_simp; with_reducible rfl
               rotate_left
               ·simp only [Act.put, sA,sB,sC, i64_w, i32_w]; rfl
               refine pure_ (i := 10) (N := some 71) (v := ?_) (a' := ?_) #[Y,Y,Y,Y,Y,Y,Y,Y,Y,Y,Y,N,N,N] rfl rfl (any_of HT_.out (by kernel_rfl)) (fun _ _ _ h => h) (Or.inl ⟨by rfl, ?_⟩) ?_ ?_; rotate_left
               ·intro w'; go_simp; with_reducible rfl
               rotate_left
               ·simp only [Act.put, sA,sB,sC, i64_w, i32_w]; rfl
               refine one_ (i := 11) (N := some 72) #[Y,Y,Y,Y,Y,Y,Y,Y,Y,Y,Y,Y,N,N] rfl rfl (one_of HT_.out (by kernel_rfl)) (by decide) (fun K hK => ?_)
               refine value_ (w1 := ?_) (v := ?_) (by rfl) rfl ?_ ?_
               rotate_left 2
               ·go_simp
                constructor
                ·rfl
                ·rfl
               refine hK.out _ _ trivial (fun hHeld => ?_)
               clear hK K
               refine norm_ (a' := ?_) ?_ ?_
               rotate_left
               ·show Act.put _ (some 72) _ = _
                simp only [Act.put, sA,sB,sC, i64_w, i32_w]; rfl
               refine one_ (i := 12) (N := some 73) #[Y,Y,Y,Y,Y,Y,Y,Y,Y,Y,Y,Y,Y,N] rfl rfl (one_of HT_.out (by kernel_rfl)) (by decide) (fun K hK => ?_)
               refine Kd.N_append_step k28 (w0 := w) w.heap.size (by rfl) (.tmp 61) (.tmp 72) 29 28 (.agg #[(.int .i64 0), (.slice none 0 0), (.slice none 0 0)]) 56 rfl Try.underlying29 info28 rfl (by decide) (by omega) u11 x11_1 (⟨x12_1, y265, y270⟩ : S28) [.int .i64 x12_1, .slice A24 y265.length c24, .slice A25 y270.length c25] (fun k_ => ((P0_ k_ ∨ P1_ k_) ∨ w.heap.size ≤ k_)) (fun k_ => ((fun k_ => ((P0_ k_ ∨ P1_ k_) ∨ w.heap.size ≤ k_))) k_ ∧ some k_ ≠ (u11 : Value).ownBlock) rfl rfl ?aP (fun _ hk => hk) ?aF ?aO ?aB ?aS ?aL ?_
               (case aP => exact (k28_mkF _ _ (⟨x12_1, y265, y270⟩ : S28) (Kd.V_reads' (Kd.V_mono (ok' := (fun k_ => ((fun k_ => ((P0_ k_ ∨ P1_ k_) ∨ w.heap.size ≤ k_))) k_ ∧ some k_ ≠ (u11 : Value).ownBlock)) (HO269.out) (fun k_ hk => ⟨hk.1, hk.2⟩))).2.1 (Kd.V_F (Kd.V_mono (ok' := (fun k_ => ((fun k_ => ((P0_ k_ ∨ P1_ k_) ∨ w.heap.size ≤ k_))) k_ ∧ some k_ ≠ (u11 : Value).ownBlock)) (HO269.out) (fun k_ hk => ⟨hk.1, hk.2⟩))) (Kd.V_reads' (Kd.V_mono (ok' := (fun k_ => ((fun k_ => ((P0_ k_ ∨ P1_ k_) ∨ w.heap.size ≤ k_))) k_ ∧ some k_ ≠ (u11 : Value).ownBlock)) (HO274.out) (fun k_ hk => ⟨hk.1, hk.2⟩))).2.1 (Kd.V_F (Kd.V_mono (ok' := (fun k_ => ((fun k_ => ((P0_ k_ ∨ P1_ k_) ∨ w.heap.size ≤ k_))) k_ ∧ some k_ ≠ (u11 : Value).ownBlock)) (HO274.out) (fun k_ hk => ⟨hk.1, hk.2⟩)))))
               (case aB => exact (by repeat (first | (with_reducible first | exact HB.out | apply below_alloc | apply pw_below_drewN | apply below_drew1) | exact HB.out)))
               (case aF => exact (fun k_ hk => (.inr (Nat.le_trans (below_size (by repeat (first | (with_reducible first | exact HB.out | apply below_alloc | apply pw_below_drewN | apply below_drew1) | exact HB.out))) hk))))
               (case aO => exact (by (with_reducible repeat (first | apply Kd.N_alloc | apply Kd.N_drewN | apply Kd.N_drew)); exact HO_11.out))
               (case aS => exact (below_size (by repeat (first | (with_reducible first | exact HB.out | apply below_alloc | apply pw_below_drewN | apply below_drew1) | exact HB.out))))
               (case aL => have := LMc21.out; omega)
               intro v276 w26 ho hb hg hat
               rw [← Ny275.out] at ho
               have n0_ := Aside0.mk (Kd.V_afterv (ok := (fun k_ => ((P0_ k_ ∨ P1_ k_) ∨ w.heap.size ≤ k_))) (by (with_reducible repeat (first | apply Kd.V_alloc | apply Kd.V_drewN | apply Kd.V_drew)); exact HO_0.out) hg hat)
               have n1_ := Aside0.mk (Kd.V_afterv (ok := (fun k_ => ((P0_ k_ ∨ P1_ k_) ∨ w.heap.size ≤ k_))) (by (with_reducible repeat (first | apply Kd.V_alloc | apply Kd.V_drewN | apply Kd.V_drew)); exact HO_1.out) hg hat)
               have n2_ := Aside0.mk (Kd.V_afterv (ok := (fun k_ => ((P0_ k_ ∨ P1_ k_) ∨ w.heap.size ≤ k_))) (by (with_reducible repeat (first | apply Kd.V_alloc | apply Kd.V_drewN | apply Kd.V_drew)); exact HO269.out) hg hat)
               have n3_ := Aside0.mk (Kd.V_afterv (ok := (fun k_ => ((P0_ k_ ∨ P1_ k_) ∨ w.heap.size ≤ k_))) (by (with_reducible repeat (first | apply Kd.V_alloc | apply Kd.V_drewN | apply Kd.V_drew)); exact HO274.out) hg hat)
               have n4_ := Aside0.mk (hb)
               have n5_ := Aside0.mk (ho)
               clear HO_0
               clear HO_1
               clear HO269
               clear HO274
               clear HB
               clear HO_11
               have HO_0 := n0_
               have HO_1 := n1_
               have HO269 := n2_
               have HO274 := n3_
               have HB := n4_
               have HO277 := n5_
               clear n0_ n1_ n2_ n3_ n4_ n5_
               clear ho hb hg hat
               refine hK.out _ _ trivial (fun hHeld => ?_)
               clear hK K
               refine norm_ (a' := ?_) ?_ ?_
               rotate_left
               ·show Act.put _ (some 73) _ = _
                simp only [Act.put, sA,sB,sC, i64_w, i32_w]; rfl
               refine pure_ (i := 13) (N := some 11) (v := ?_) (a' := ?_) #[Y,Y,Y,Y,Y,Y,Y,Y,Y,Y,Y,Y,Y,Y] rfl rfl (any_of HT_.out (by kernel_rfl)) (fun _ _ _ h => h) (Or.inl ⟨by rfl, ?_⟩) ?_ ?_; rotate_left
               ·intro w'; go_simp; with_reducible rfl
               rotate_left
               ·simp only [Act.put, sA,sB,sC, i64_w, i32_w]; rfl
               refine done_ (done_of HT_.out (by kernel_rfl)) ?_
               try go_wp2
               go_roundg k1
               case measure => have := HK1.out; omega
               case rel => exact ⟨(y275), (wrap64 (((rd_T54 l2 x14_1).f0) + 1)), (wrap64 (((rd_T54 l2 x14_1).f1) + 1)), (wrap64 (x14_1 + 1)), (by first | rfl | (simp; done) | (simp [*]; done)), (by first | rfl | (simp; done) | (simp [*]; done)), (by first | rfl | (simp; done) | (simp [*]; done)), H', ⟨by have := HK1.out; omega⟩, ⟨by (with_reducible repeat (first | apply Kd.V_alloc | apply Kd.V_drewN | apply Kd.V_drew)); exact HO_0.out⟩, ⟨by (with_reducible repeat (first | apply Kd.V_alloc | apply Kd.V_drewN | apply Kd.V_drew)); exact HO_1.out⟩, ⟨by (with_reducible repeat (first | apply Kd.N_alloc | apply Kd.N_drewN | apply Kd.N_drew)); exact HO277.out⟩, ⟨by repeat (first | (with_reducible first | exact HB.out | apply below_alloc | apply pw_below_drewN | apply below_drew1) | exact HB.out)⟩⟩
              ·rw [if_neg c21] at H
               exact absurd H (by simp)
             ·rw [if_neg c20] at H
              exact absurd H (by simp)
            ·rw [if_neg c19] at H
             exact absurd H (by simp)
           ·rw [if_neg c18] at H
            exact absurd H (by simp)
          ·rw [if_neg c17] at H
           exact absurd H (by simp)
         ·rw [if_neg c16] at H
          exact absurd H (by simp)
        ·rw [if_neg c15] at H
         exact absurd H (by simp)
       ·rw [if_neg c14] at H
        have c14b0 : decide (x12_1 < ((rd_T54 l2 x14_1).f0)) = false := decide_eq_false c14
        clear c14
        by_cases c27 : ((rd_T54 l2 x14_1).f1) > x13_1
        ·rw [if_pos c27] at H
         have c27b0 : decide (x13_1 < ((rd_T54 l2 x14_1).f1)) = true := decide_eq_true c27
         clear c27
         by_cases c28 : 0 ≤ x12_1
         ·rw [if_pos c28] at H
          have c28b0 := eq_true c28
          have c28b1 : decide (0 ≤ x12_1) = true := decide_eq_true c28
          clear c28
          by_cases c29 : x12_1 ≤ ((rd_T54 l2 x14_1).f0)
          ·rw [if_pos c29] at H
           have c29b0 := eq_true c29
           have c29b1 : decide (x12_1 ≤ ((rd_T54 l2 x14_1).f0)) = true := decide_eq_true c29
           clear c29
           by_cases c30 : ((rd_T54 l2 x14_1).f0) ≤ (l0.length : Int)
           ·rw [if_pos c30] at H
            have c30b0 := eq_true c30
            have c30b1 : decide (((rd_T54 l2 x14_1).f0) ≤ (l0.length : Int)) = true := decide_eq_true c30
            clear c30
            obtain ⟨y278, hy278⟩ : ∃ y_ : List (List Int), y_ = ((l0.take (((rd_T54 l2 x14_1).f0) : Int).toNat).drop (x12_1 : Int).toNat) := ⟨_, rfl⟩
            replace H : (if 0 ≤ x13_1 then (if x13_1 ≤ ((rd_T54 l2 x14_1).f1) then (if ((rd_T54 l2 x14_1).f1) ≤ (l1.length : Int) then (if x11_1.length < 2513169434916 then (tattingref24_Make.l0 k1 l0 l1 l2 (x11_1 ++ [(⟨x12_1, y278, ((l1.take (((rd_T54 l2 x14_1).f1) : Int).toNat).drop (x13_1 : Int).toNat)⟩ : S28)]) (wrap64 (((rd_T54 l2 x14_1).f0) + 1)) (wrap64 (((rd_T54 l2 x14_1).f1) + 1)) (wrap64 (x14_1 + 1))) else (none)) else (none)) else (none)) else (none)) = some (r1, r2) := by first | (rw [hy278]; with_reducible exact H) | (have H2_ := (Option.bind_some _ _).symm.trans H; rw [hy278]; with_reducible exact H2_) | (have H2_ := (Option.bind_some _ _).symm.trans H; with_reducible exact H2_) | with_reducible exact H | (rw [hy278]; exact H) | exact H
            have Ny278 := Aside0.mk hy278
            clear hy278
            by_cases c31 : 0 ≤ x13_1
            ·rw [if_pos c31] at H
             have c31b0 := eq_true c31
             have c31b1 : decide (0 ≤ x13_1) = true := decide_eq_true c31
             clear c31
             by_cases c32 : x13_1 ≤ ((rd_T54 l2 x14_1).f1)
             ·rw [if_pos c32] at H
              have c32b0 := eq_true c32
              have c32b1 : decide (x13_1 ≤ ((rd_T54 l2 x14_1).f1)) = true := decide_eq_true c32
              clear c32
              by_cases c33 : ((rd_T54 l2 x14_1).f1) ≤ (l1.length : Int)
              ·rw [if_pos c33] at H
               have c33b0 := eq_true c33
               have c33b1 : decide (((rd_T54 l2 x14_1).f1) ≤ (l1.length : Int)) = true := decide_eq_true c33
               clear c33
               obtain ⟨y283, hy283⟩ : ∃ y_ : List (List Int), y_ = ((l1.take (((rd_T54 l2 x14_1).f1) : Int).toNat).drop (x13_1 : Int).toNat) := ⟨_, rfl⟩
               replace H : (if x11_1.length < 2513169434916 then (tattingref24_Make.l0 k1 l0 l1 l2 (x11_1 ++ [(⟨x12_1, y278, y283⟩ : S28)]) (wrap64 (((rd_T54 l2 x14_1).f0) + 1)) (wrap64 (((rd_T54 l2 x14_1).f1) + 1)) (wrap64 (x14_1 + 1))) else (none)) = some (r1, r2) := by first | (rw [hy283]; with_reducible exact H) | (have H2_ := (Option.bind_some _ _).symm.trans H; rw [hy283]; with_reducible exact H2_) | (have H2_ := (Option.bind_some _ _).symm.trans H; with_reducible exact H2_) | with_reducible exact H | (rw [hy283]; exact H) | exact H
               have Ny283 := Aside0.mk hy283
               clear hy283
               by_cases c34 : x11_1.length < 2513169434916
               ·rw [if_pos c34] at H
                have LMc34 := Aside0.mk c34
                clear c34
                obtain ⟨y288, hy288⟩ : ∃ y_ : List (S28), y_ = (x11_1 ++ [(⟨x12_1, y278, y283⟩ : S28)]) := ⟨_, rfl⟩
                replace H : (tattingref24_Make.l0 k1 l0 l1 l2 y288 (wrap64 (((rd_T54 l2 x14_1).f0) + 1)) (wrap64 (((rd_T54 l2 x14_1).f1) + 1)) (wrap64 (x14_1 + 1))) = some (r1, r2) := by first | (rw [hy288]; with_reducible exact H) | (have H2_ := (Option.bind_some _ _).symm.trans H; rw [hy288]; with_reducible exact H2_) | (have H2_ := (Option.bind_some _ _).symm.trans H; with_reducible exact H2_) | with_reducible exact H | (rw [hy288]; exact H) | exact H
                have Ny288 := Aside0.mk hy288
                clear hy288
                have H' := Aside0.mk H
                clear H
                try go_wp2
                have n0_ := Aside0.mk (Kd.V_drew HO_0.out)
                have n1_ := Aside0.mk (Kd.V_drew HO_1.out)
                have n2_ := Aside0.mk (Kd.N_drew HO_11.out)
                have n3_ := Aside0.mk (below_drew1 HB.out)
                clear HO_0
                clear HO_1
                clear HO_11
                clear HB
                have HO_0 := n0_
                have HO_1 := n1_
                have HO_11 := n2_
                have HB := n3_
                clear n0_ n1_ n2_ n3_
                have p263 : 0 ≤ (x14_1 : Int) := of_decide_eq_true (by first | (with_reducible assumption) | assumption)
                have q263 : x14_1 < (l2.length : Int) := of_decide_eq_true (by first | (with_reducible assumption) | assumption)
                obtain ⟨ad263, e263, hx263_0, hx263_1⟩ := at_T54 HR2.out x14_1 p263 q263
                have hw263_1 := hx263_1
                have hw263_0 := hx263_0
                cases e263
                replace hx263_0 := (HB.out.cell (World.block_lt_of_cell? w _ hx263_0)).trans hx263_0
                replace hx263_1 := (HB.out.cell (World.block_lt_of_cell? w _ hx263_1)).trans hx263_1
                replace p263 := eq_true p263
                replace q263 := eq_true q263
                have p264 : 0 ≤ (x14_1 : Int) := of_decide_eq_true (by first | (with_reducible assumption) | assumption)
                have q264 : x14_1 < (l2.length : Int) := of_decide_eq_true (by first | (with_reducible assumption) | assumption)
                obtain ⟨ad264, e264, hx264_0, hx264_1⟩ := at_T54 HR2.out x14_1 p264 q264
                have hw264_1 := hx264_1
                have hw264_0 := hx264_0
                obtain rfl : ad263 = ad264 := (by injection e264)
                replace hx264_0 := (HB.out.cell (World.block_lt_of_cell? w _ hx264_0)).trans hx264_0
                replace hx264_1 := (HB.out.cell (World.block_lt_of_cell? w _ hx264_1)).trans hx264_1
                replace p264 := eq_true p264
                replace q264 := eq_true q264
                refine start_ (n := 12) (S := fun w' => w'.cell? (ad263.add ((x14_1).toNat * 2)) = some (.int .i64 ((rd_T54 l2 x14_1).f0)) ∧ w'.cell? ⟨(ad263.add ((x14_1).toNat * 2)).block, (ad263.add ((x14_1).toNat * 2)).off + 1, none⟩ = some (.int .i64 ((rd_T54 l2 x14_1).f1)) ∧ w'.cell? (ad263.add ((x14_1).toNat * 2)) = some (.int .i64 ((rd_T54 l2 x14_1).f0)) ∧ w'.cell? ⟨(ad263.add ((x14_1).toNat * 2)).block, (ad263.add ((x14_1).toNat * 2)).off + 1, none⟩ = some (.int .i64 ((rd_T54 l2 x14_1).f1))) (ds := []) #[N,N,N,N,N,N,N,N,N,N,N,N] (by kernel_rfl) rfl rfl ⟨((HB.out.cell (World.block_lt_of_cell? w _ hw263_0)).trans hw263_0), ((HB.out.cell (World.block_lt_of_cell? w _ hw263_1)).trans hw263_1), ((HB.out.cell (World.block_lt_of_cell? w _ hw264_0)).trans hw264_0), ((HB.out.cell (World.block_lt_of_cell? w _ hw264_1)).trans hw264_1)⟩ (fun hHeld => ?_); refine with_tabW tattingref24_Make.tab11 tattingref24_Make.bits11 (fun HT_ HW_ => ?_)
                generalize wr.drew = w35 at HO_0 HO_1 HO_11 HB hx263_0 hx263_1 hx264_0 hx264_1 hHeld ⊢
                refine pure_ (i := 0) (N := some 43) (v := ?_) (a' := ?_) #[Y,N,N,N,N,N,N,N,N,N,N,N] rfl rfl (any_of HT_.out (by kernel_rfl)) (fun _ _ _ h => h) (Or.inl ⟨by rfl, ?_⟩) ?_ ?_; rotate_left
                ·intro w'; go_simp; with_reducible rfl
                rotate_left
                ·simp only [Act.put, sA,sB,sC, i64_w, i32_w]; rfl
                refine pure_ (i := 1) (N := some 44) (v := ?_) (a' := ?_) #[Y,Y,N,N,N,N,N,N,N,N,N,N] rfl rfl (any_of HT_.out (by kernel_rfl)) (fun _ _ _ h => h) (Or.inl ⟨by rfl, ?_⟩) ?_ ?_; rotate_left
                ·intro w'; go_simp; with_reducible rfl
                rotate_left
                ·simp only [Act.put, sA,sB,sC, i64_w, i32_w]; rfl
                refine pure_ (i := 2) (N := some 45) (v := ?_) (a' := ?_) #[Y,Y,Y,N,N,N,N,N,N,N,N,N] rfl rfl (any_of HT_.out (by kernel_rfl)) (fun _ _ _ h => h) (Or.inl ⟨by rfl, ?_⟩) ?_ ?_; rotate_left
                ·intro w'; go_simp; with_reducible rfl
                rotate_left
                ·simp only [Act.put, sA,sB,sC, i64_w, i32_w]; rfl
                refine pure_ (i := 3) (N := some 46) (v := ?_) (a' := ?_) #[Y,Y,Y,Y,N,N,N,N,N,N,N,N] rfl rfl (any_of HT_.out (by kernel_rfl)) (fun _ _ _ h => h) (Or.inl ⟨by rfl, ?_⟩) ?_ ?_; rotate_left
                ·intro w'; go_simp; with_reducible rfl
                rotate_left
                ·simp only [Act.put, sA,sB,sC, i64_w, i32_w]; rfl
                refine pure_ (i := 5) (N := some 48) (v := ?_) (a' := ?_) #[Y,Y,Y,Y,N,Y,N,N,N,N,N,N] rfl rfl (any_of HT_.out (by kernel_rfl)) (fun _ _ _ h => h) (Or.inl ⟨by rfl, ?_⟩) ?_ ?_; rotate_left
                ·intro w'; go_simp; with_reducible rfl
                rotate_left
                ·simp only [Act.put, sA,sB,sC, i64_w, i32_w]; rfl
                refine pure_ (i := 6) (N := some 49) (v := ?_) (a' := ?_) #[Y,Y,Y,Y,N,Y,Y,N,N,N,N,N] rfl rfl (any_of HT_.out (by kernel_rfl)) (fun _ _ _ h => h) (Or.inl ⟨by rfl, ?_⟩) ?_ ?_; rotate_left
                ·intro w'; go_simp; with_reducible rfl
                rotate_left
                ·simp only [Act.put, sA,sB,sC, i64_w, i32_w]; rfl
                refine pure_ (i := 7) (N := some 50) (v := ?_) (a' := ?_) #[Y,Y,Y,Y,N,Y,Y,Y,N,N,N,N] rfl rfl (any_of HT_.out (by kernel_rfl)) (fun _ _ _ h => h) (Or.inl ⟨by rfl, ?_⟩) ?_ ?_; rotate_left
                ·intro w'; go_simp; with_reducible rfl
                rotate_left
                ·simp only [Act.put, sA,sB,sC, i64_w, i32_w]; rfl
                refine pure_ (i := 8) (N := some 51) (v := ?_) (a' := ?_) #[Y,Y,Y,Y,N,Y,Y,Y,Y,N,N,N] rfl rfl (any_of HT_.out (by kernel_rfl)) (fun _ _ _ h => h) (Or.inl ⟨by rfl, ?_⟩) ?_ ?_; rotate_left
                ·intro w'; go_simp; with_reducible rfl
                rotate_left
                ·simp only [Act.put, sA,sB,sC, i64_w, i32_w]; rfl
                refine take_ (i := 4) (N := some 47) (v := ?_) (a' := ?_) #[Y,Y,Y,Y,Y,Y,Y,Y,Y,N,N,N] rfl rfl (take_ofW HT_.out HW_.out (by kernel_rfl)) (fun _ _ _ h => h) (Or.inl ⟨by rfl, ?_⟩) hHeld ?_ ?_; rotate_left
                ·rintro w' ⟨s0, s1, s2, s3⟩; go_simp; with_reducible rfl
                rotate_left
                ·simp only [Act.put, sA,sB,sC, i64_w, i32_w]; rfl
                refine pure_ (i := 10) (N := some 15) (v := ?_) (a' := ?_) #[Y,Y,Y,Y,Y,Y,Y,Y,Y,N,Y,N] rfl rfl (any_of HT_.out (by kernel_rfl)) (fun _ _ _ h => h) (Or.inl ⟨by rfl, ?_⟩) ?_ ?_; rotate_left
                ·intro w'; go_simp; with_reducible rfl
                rotate_left
                ·simp only [Act.put, sA,sB,sC, i64_w, i32_w]; rfl
                refine take_ (i := 9) (N := some 52) (v := ?_) (a' := ?_) #[Y,Y,Y,Y,Y,Y,Y,Y,Y,Y,Y,N] rfl rfl (take_ofW HT_.out HW_.out (by kernel_rfl)) (fun _ _ _ h => h) (Or.inl ⟨by rfl, ?_⟩) hHeld ?_ ?_; rotate_left
                ·rintro w' ⟨s0, s1, s2, s3⟩; go_simp; with_reducible rfl
                rotate_left
                ·simp only [Act.put, sA,sB,sC, i64_w, i32_w]; rfl
                refine pure_ (i := 11) (N := some 16) (v := ?_) (a' := ?_) #[Y,Y,Y,Y,Y,Y,Y,Y,Y,Y,Y,Y] rfl rfl (any_of HT_.out (by kernel_rfl)) (fun _ _ _ h => h) (Or.inl ⟨by rfl, ?_⟩) ?_ ?_; rotate_left
                ·intro w'; go_simp; with_reducible rfl
                rotate_left
                ·simp only [Act.put, sA,sB,sC, i64_w, i32_w]; rfl
                refine done_ (done_of HT_.out (by kernel_rfl)) ?_
                try go_wp2
                have n0_ := Aside0.mk (Kd.V_drew HO_0.out)
                have n1_ := Aside0.mk (Kd.V_drew HO_1.out)
                have n2_ := Aside0.mk (Kd.N_drew HO_11.out)
                have n3_ := Aside0.mk (below_drew1 HB.out)
                clear HO_0
                clear HO_1
                clear HO_11
                clear HB
                have HO_0 := n0_
                have HO_1 := n1_
                have HO_11 := n2_
                have HB := n3_
                clear n0_ n1_ n2_ n3_
                have q37 : (((rd_T54 l2 x14_1).f0) : Int) ≤ ((l0.length : Int) : Int) := of_decide_eq_true (by first | (with_reducible assumption) | assumption)
                obtain ⟨i037, hi037, _, hsz37, _⟩ := info_parts info22
                have hroom37 : l0.length ≤ c0 := (Kd.V_reads' HO_0.out).2.1
                have hC37 : Kd.F (Kd.slice 5 (Kd.int .u8)) _ _ A0 l0.length l0 := (Kd.V_at (base := w.heap.size) HO_0.out).2.2
                have ql37 : (x12_1 : Int) ≤ (((rd_T54 l2 x14_1).f0) : Int) := of_decide_eq_true (by first | (with_reducible assumption) | assumption)
                have q037 : (0 : Int) ≤ (x12_1 : Int) := of_decide_eq_true (by first | (with_reducible assumption) | assumption)
                have hcut37 := cut_mid (P := Try.prog) 23 22 .i64 .i64 Try.underlying23 hi037 1 hsz37 A0 l0.length c0 x12_1 ((rd_T54 l2 x14_1).f0) q037 ql37 q37 hroom37
                have hr37 := Kd.F_mid (lo := (x12_1 : Int).toNat) (hi := (((rd_T54 l2 x14_1).f0) : Int).toNat) (c := c0) hC37 (by omega) (by omega) hroom37
                obtain ⟨A37, hA37⟩ : ∃ z_, z_ = (if c0 = (x12_1 : Int).toNat then A0 else (A0 : Option Addr).map (·.add ((x12_1 : Int).toNat * 1))) := ⟨_, rfl⟩
                obtain ⟨c37, hc37⟩ : ∃ z_, z_ = c0 - (x12_1 : Int).toNat := ⟨_, rfl⟩
                have hy37 : y278.length = (((rd_T54 l2 x14_1).f0) : Int).toNat - (x12_1 : Int).toNat := (by rw [Ny278.out, List.length_drop, List.length_take] <;> omega)
                rw [show ((l0).take (((rd_T54 l2 x14_1).f0) : Int).toNat).drop (x12_1 : Int).toNat = y278 from Ny278.out.symm] at hr37
                replace hr37 : Kd.F (Kd.slice 5 (Kd.int .u8)) _ _ A37 y278.length y278 := (by rw [hA37]; exact hr37)
                rw [← hy37, ← hA37, ← hc37] at hcut37
                have HO282 := Aside0.mk (show Kd.V (Kd.slice 5 (Kd.int .u8)) 22 _ w.heap.size _ (.slice A37 y278.length c37) y278 from Kd.V_mk (by rw [hy37, hc37]; exact Nat.sub_le_sub_right (Nat.le_trans (by omega) hroom37) _) hr37)
                have HC282 := Aside0.mk (show y278.length ≤ c37 from by rw [hy37, hc37]; exact Nat.sub_le_sub_right (Nat.le_trans (by omega) hroom37) _)
                clear hr37 hC37 hroom37 hi037 hsz37 hc37
                have KY37 := Aside0.mk hy37
                have KA37 := Aside0.mk hA37
                clear hy37 hA37
                replace q37 := eq_true q37
                have q38 : (((rd_T54 l2 x14_1).f1) : Int) ≤ ((l1.length : Int) : Int) := of_decide_eq_true (by first | (with_reducible assumption) | assumption)
                obtain ⟨i038, hi038, _, hsz38, _⟩ := info_parts info22
                have hroom38 : l1.length ≤ c1 := (Kd.V_reads' HO_1.out).2.1
                have hC38 : Kd.F (Kd.slice 5 (Kd.int .u8)) _ _ A1 l1.length l1 := (Kd.V_at (base := w.heap.size) HO_1.out).2.2
                have ql38 : (x13_1 : Int) ≤ (((rd_T54 l2 x14_1).f1) : Int) := of_decide_eq_true (by first | (with_reducible assumption) | assumption)
                have q038 : (0 : Int) ≤ (x13_1 : Int) := of_decide_eq_true (by first | (with_reducible assumption) | assumption)
                have hcut38 := cut_mid (P := Try.prog) 23 22 .i64 .i64 Try.underlying23 hi038 1 hsz38 A1 l1.length c1 x13_1 ((rd_T54 l2 x14_1).f1) q038 ql38 q38 hroom38
                have hr38 := Kd.F_mid (lo := (x13_1 : Int).toNat) (hi := (((rd_T54 l2 x14_1).f1) : Int).toNat) (c := c1) hC38 (by omega) (by omega) hroom38
                obtain ⟨A38, hA38⟩ : ∃ z_, z_ = (if c1 = (x13_1 : Int).toNat then A1 else (A1 : Option Addr).map (·.add ((x13_1 : Int).toNat * 1))) := ⟨_, rfl⟩
                obtain ⟨c38, hc38⟩ : ∃ z_, z_ = c1 - (x13_1 : Int).toNat := ⟨_, rfl⟩
                have hy38 : y283.length = (((rd_T54 l2 x14_1).f1) : Int).toNat - (x13_1 : Int).toNat := (by rw [Ny283.out, List.length_drop, List.length_take] <;> omega)
                rw [show ((l1).take (((rd_T54 l2 x14_1).f1) : Int).toNat).drop (x13_1 : Int).toNat = y283 from Ny283.out.symm] at hr38
                replace hr38 : Kd.F (Kd.slice 5 (Kd.int .u8)) _ _ A38 y283.length y283 := (by rw [hA38]; exact hr38)
                rw [← hy38, ← hA38, ← hc38] at hcut38
                have HO287 := Aside0.mk (show Kd.V (Kd.slice 5 (Kd.int .u8)) 22 _ w.heap.size _ (.slice A38 y283.length c38) y283 from Kd.V_mk (by rw [hy38, hc38]; exact Nat.sub_le_sub_right (Nat.le_trans (by omega) hroom38) _) hr38)
                have HC287 := Aside0.mk (show y283.length ≤ c38 from by rw [hy38, hc38]; exact Nat.sub_le_sub_right (Nat.le_trans (by omega) hroom38) _)
                clear hr38 hC38 hroom38 hi038 hsz38 hc38
                have KY38 := Aside0.mk hy38
                have KA38 := Aside0.mk hA38
                clear hy38 hA38
                replace q38 := eq_true q38
                refine start_ (n := 14) (S := fun w' => True) (ds := []) #[N,N,N,N,N,N,N,N,N,N,N,N,N,N] (by kernel_rfl) rfl rfl trivial (fun hHeld => ?_); refine with_tabW tattingref24_Make.tab13 tattingref24_Make.bits13 (fun HT_ HW_ => ?_)
                generalize w35.drew = w36 at HO_0 HO_1 HO_11 HB HO282 HO287 hHeld ⊢
                refine pure_ (i := 0) (N := some 61) (v := ?_) (a' := ?_) #[Y,N,N,N,N,N,N,N,N,N,N,N,N,N] rfl rfl (any_of HT_.out (by kernel_rfl)) (fun _ _ _ h => h) (Or.inl ⟨by rfl, ?_⟩) ?_ ?_; rotate_left
                ·intro w'; go_simp; with_reducible rfl
                rotate_left
                ·simp only [Act.put, sA,sB,sC, i64_w, i32_w]; rfl
                refine pure_ (i := 1) (N := some 62) (v := ?_) (a' := ?_) #[Y,Y,N,N,N,N,N,N,N,N,N,N,N,N] rfl rfl (any_of HT_.out (by kernel_rfl)) (fun _ _ _ h => h) (Or.inl ⟨by rfl, ?_⟩) ?_ ?_; rotate_left
                ·intro w'; go_simp; with_reducible rfl
                rotate_left
                ·simp only [Act.put, sA,sB,sC, i64_w, i32_w]; rfl
                refine pure_ (i := 2) (N := some 63) (v := ?_) (a' := ?_) #[Y,Y,Y,N,N,N,N,N,N,N,N,N,N,N] rfl rfl (any_of HT_.out (by kernel_rfl)) (fun _ _ _ h => h) (Or.inl ⟨by rfl, ?_⟩) ?_ ?_; rotate_left
                ·intro w'; go_simp; with_reducible rfl
                rotate_left
                ·simp only [Act.put, sA,sB,sC, i64_w, i32_w]; rfl
                refine pure_ (i := 3) (N := some 64) (v := ?_) (a' := ?_) #[Y,Y,Y,Y,N,N,N,N,N,N,N,N,N,N] rfl rfl (any_of HT_.out (by kernel_rfl)) (fun _ _ _ h => h) (Or.inl ⟨by rfl, ?_⟩) ?_ ?_; rotate_left
                ·intro w'; go_simp; with_reducible rfl
                rotate_left
                ·simp only [Act.put, sA,sB,sC, i64_w, i32_w]; rfl
                refine pure_ (i := 4) (N := some 65) (v := ?_) (a' := ?_) #[Y,Y,Y,Y,Y,N,N,N,N,N,N,N,N,N] rfl rfl (any_of HT_.out (by kernel_rfl)) (fun _ _ _ h => h) (Or.inl ⟨by rfl, ?_⟩) ?_ ?_; rotate_left
                ·intro w'; go_simp; with_reducible rfl
                rotate_left
                ·simp only [Act.put, sA,sB,sC, i64_w, i32_w]; rfl
                refine pure_ (i := 5) (N := some 66) (v := ?_) (a' := ?_) #[Y,Y,Y,Y,Y,Y,N,N,N,N,N,N,N,N] rfl rfl (any_of HT_.out (by kernel_rfl)) (fun _ _ _ h => h) (Or.inl ⟨by rfl, ?_⟩) ?_ ?_; rotate_left
                ·intro w'; go_simp; with_reducible rfl
                rotate_left
                ·simp only [Act.put, sA,sB,sC, i64_w, i32_w]; rfl
                refine pure_ (i := 6) (N := some 67) (v := ?_) (a' := ?_) #[Y,Y,Y,Y,Y,Y,Y,N,N,N,N,N,N,N] rfl rfl (any_of HT_.out (by kernel_rfl)) (fun _ _ _ h => h) (Or.inl ⟨by rfl, ?_⟩) ?_ ?_; rotate_left
                ·intro w'; go_simp; with_reducible rfl
                rotate_left
                ·simp only [Act.put, sA,sB,sC, i64_w, i32_w]; rfl
                refine pure_ (i := 7) (N := some 68) (v := ?_) (a' := ?_) #[Y,Y,Y,Y,Y,Y,Y,Y,N,N,N,N,N,N] rfl rfl (any_of HT_.out (by kernel_rfl)) (fun _ _ _ h => h) (Or.inl ⟨by rfl, ?_⟩) ?_ ?_; rotate_left
                ·intro w'; go_simp; with_reducible rfl
                rotate_left
                ·simp only [Act.put, sA,sB,sC, i64_w, i32_w]; rfl
                refine pure_ (i := 8) (N := some 69) (v := ?_) (a' := ?_) #[Y,Y,Y,Y,Y,Y,Y,Y,Y,N,N,N,N,N] rfl rfl (any_of HT_.out (by kernel_rfl)) (fun _ _ _ h => h) (Or.inl ⟨by rfl, ?_⟩) ?_ ?_; rotate_left
                ·intro w'; go_simp; with_reducible rfl
                rotate_left
                ·simp only [Act.put, sA,sB,sC, i64_w, i32_w]; rfl
                refine pure_ (i := 9) (N := some 70) (v := ?_) (a' := ?_) #[Y,Y,Y,Y,Y,Y,Y,Y,Y,Y,N,N,N,N] rfl rfl (any_of HT_.out (by kernel_rfl)) (fun _ _ _ h => h) (Or.inl ⟨by rfl, ?_⟩) ?_ ?_; rotate_left
                ·intro w'; go_simp; with_reducible rfl
                rotate_left
                ·simp only [Act.put, sA,sB,sC, i64_w, i32_w]; rfl
                refine pure_ (i := 10) (N := some 71) (v := ?_) (a' := ?_) #[Y,Y,Y,Y,Y,Y,Y,Y,Y,Y,Y,N,N,N] rfl rfl (any_of HT_.out (by kernel_rfl)) (fun _ _ _ h => h) (Or.inl ⟨by rfl, ?_⟩) ?_ ?_; rotate_left
                ·intro w'; go_simp; with_reducible rfl
                rotate_left
                ·simp only [Act.put, sA,sB,sC, i64_w, i32_w]; rfl
                refine one_ (i := 11) (N := some 72) #[Y,Y,Y,Y,Y,Y,Y,Y,Y,Y,Y,Y,N,N] rfl rfl (one_of HT_.out (by kernel_rfl)) (by decide) (fun K hK => ?_)
                refine value_ (w1 := ?_) (v := ?_) (by rfl) rfl ?_ ?_
                rotate_left 2
                ·go_simp
                 constructor
                 ·rfl
                 ·rfl
                refine hK.out _ _ trivial (fun hHeld => ?_)
                clear hK K
                refine norm_ (a' := ?_) ?_ ?_
                rotate_left
                ·show Act.put _ (some 72) _ = _
                 simp only [Act.put, sA,sB,sC, i64_w, i32_w]; rfl
                refine one_ (i := 12) (N := some 73) #[Y,Y,Y,Y,Y,Y,Y,Y,Y,Y,Y,Y,Y,N] rfl rfl (one_of HT_.out (by kernel_rfl)) (by decide) (fun K hK => ?_)
                refine Kd.N_append_step k28 (w0 := w) w.heap.size (by rfl) (.tmp 61) (.tmp 72) 29 28 (.agg #[(.int .i64 0), (.slice none 0 0), (.slice none 0 0)]) 56 rfl Try.underlying29 info28 rfl (by decide) (by omega) u11 x11_1 (⟨x12_1, y278, y283⟩ : S28) [.int .i64 x12_1, .slice A37 y278.length c37, .slice A38 y283.length c38] (fun k_ => ((P0_ k_ ∨ P1_ k_) ∨ w.heap.size ≤ k_)) (fun k_ => ((fun k_ => ((P0_ k_ ∨ P1_ k_) ∨ w.heap.size ≤ k_))) k_ ∧ some k_ ≠ (u11 : Value).ownBlock) rfl rfl ?aP (fun _ hk => hk) ?aF ?aO ?aB ?aS ?aL ?_
                (case aP => exact (k28_mkF _ _ (⟨x12_1, y278, y283⟩ : S28) (Kd.V_reads' (Kd.V_mono (ok' := (fun k_ => ((fun k_ => ((P0_ k_ ∨ P1_ k_) ∨ w.heap.size ≤ k_))) k_ ∧ some k_ ≠ (u11 : Value).ownBlock)) (HO282.out) (fun k_ hk => ⟨hk.1, hk.2⟩))).2.1 (Kd.V_F (Kd.V_mono (ok' := (fun k_ => ((fun k_ => ((P0_ k_ ∨ P1_ k_) ∨ w.heap.size ≤ k_))) k_ ∧ some k_ ≠ (u11 : Value).ownBlock)) (HO282.out) (fun k_ hk => ⟨hk.1, hk.2⟩))) (Kd.V_reads' (Kd.V_mono (ok' := (fun k_ => ((fun k_ => ((P0_ k_ ∨ P1_ k_) ∨ w.heap.size ≤ k_))) k_ ∧ some k_ ≠ (u11 : Value).ownBlock)) (HO287.out) (fun k_ hk => ⟨hk.1, hk.2⟩))).2.1 (Kd.V_F (Kd.V_mono (ok' := (fun k_ => ((fun k_ => ((P0_ k_ ∨ P1_ k_) ∨ w.heap.size ≤ k_))) k_ ∧ some k_ ≠ (u11 : Value).ownBlock)) (HO287.out) (fun k_ hk => ⟨hk.1, hk.2⟩)))))
                (case aB => exact (by repeat (first | (with_reducible first | exact HB.out | apply below_alloc | apply pw_below_drewN | apply below_drew1) | exact HB.out)))
                (case aF => exact (fun k_ hk => (.inr (Nat.le_trans (below_size (by repeat (first | (with_reducible first | exact HB.out | apply below_alloc | apply pw_below_drewN | apply below_drew1) | exact HB.out))) hk))))
                (case aO => exact (by (with_reducible repeat (first | apply Kd.N_alloc | apply Kd.N_drewN | apply Kd.N_drew)); exact HO_11.out))
                (case aS => exact (below_size (by repeat (first | (with_reducible first | exact HB.out | apply below_alloc | apply pw_below_drewN | apply below_drew1) | exact HB.out))))
                (case aL => have := LMc34.out; omega)
                intro v289 w39 ho hb hg hat
                rw [← Ny288.out] at ho
                have n0_ := Aside0.mk (Kd.V_afterv (ok := (fun k_ => ((P0_ k_ ∨ P1_ k_) ∨ w.heap.size ≤ k_))) (by (with_reducible repeat (first | apply Kd.V_alloc | apply Kd.V_drewN | apply Kd.V_drew)); exact HO_0.out) hg hat)
                have n1_ := Aside0.mk (Kd.V_afterv (ok := (fun k_ => ((P0_ k_ ∨ P1_ k_) ∨ w.heap.size ≤ k_))) (by (with_reducible repeat (first | apply Kd.V_alloc | apply Kd.V_drewN | apply Kd.V_drew)); exact HO_1.out) hg hat)
                have n2_ := Aside0.mk (Kd.V_afterv (ok := (fun k_ => ((P0_ k_ ∨ P1_ k_) ∨ w.heap.size ≤ k_))) (by (with_reducible repeat (first | apply Kd.V_alloc | apply Kd.V_drewN | apply Kd.V_drew)); exact HO282.out) hg hat)
                have n3_ := Aside0.mk (Kd.V_afterv (ok := (fun k_ => ((P0_ k_ ∨ P1_ k_) ∨ w.heap.size ≤ k_))) (by (with_reducible repeat (first | apply Kd.V_alloc | apply Kd.V_drewN | apply Kd.V_drew)); exact HO287.out) hg hat)
                have n4_ := Aside0.mk (hb)
                have n5_ := Aside0.mk (ho)
                clear HO_0
                clear HO_1
                clear HO282
                clear HO287
                clear HB
                clear HO_11
                have HO_0 := n0_
                have HO_1 := n1_
                have HO282 := n2_
                have HO287 := n3_
                have HB := n4_
                have HO290 := n5_
                clear n0_ n1_ n2_ n3_ n4_ n5_
                clear ho hb hg hat
                refine hK.out _ _ trivial (fun hHeld => ?_)
                clear hK K
                refine norm_ (a' := ?_) ?_ ?_
                rotate_left
                ·show Act.put _ (some 73) _ = _
                 simp only [Act.put, sA,sB,sC, i64_w, i32_w]; rfl
                refine pure_ (i := 13) (N := some 11) (v := ?_) (a' := ?_) #[Y,Y,Y,Y,Y,Y,Y,Y,Y,Y,Y,Y,Y,Y] rfl rfl (any_of HT_.out (by kernel_rfl)) (fun _ _ _ h => h) (Or.inl ⟨by rfl, ?_⟩) ?_ ?_; rotate_left
                ·intro w'; go_simp; with_reducible rfl
                rotate_left
                ·simp only [Act.put, sA,sB,sC, i64_w, i32_w]; rfl
                refine done_ (done_of HT_.out (by kernel_rfl)) ?_
                try go_wp2
                go_roundg k1
                case measure => have := HK1.out; omega
                case rel => exact ⟨(y288), (wrap64 (((rd_T54 l2 x14_1).f0) + 1)), (wrap64 (((rd_T54 l2 x14_1).f1) + 1)), (wrap64 (x14_1 + 1)), (by first | rfl | (simp; done) | (simp [*]; done)), (by first | rfl | (simp; done) | (simp [*]; done)), (by first | rfl | (simp; done) | (simp [*]; done)), H', ⟨by have := HK1.out; omega⟩, ⟨by (with_reducible repeat (first | apply Kd.V_alloc | apply Kd.V_drewN | apply Kd.V_drew)); exact HO_0.out⟩, ⟨by (with_reducible repeat (first | apply Kd.V_alloc | apply Kd.V_drewN | apply Kd.V_drew)); exact HO_1.out⟩, ⟨by (with_reducible repeat (first | apply Kd.N_alloc | apply Kd.N_drewN | apply Kd.N_drew)); exact HO290.out⟩, ⟨by repeat (first | (with_reducible first | exact HB.out | apply below_alloc | apply pw_below_drewN | apply below_drew1) | exact HB.out)⟩⟩
               ·rw [if_neg c34] at H
                exact absurd H (by simp)
              ·rw [if_neg c33] at H
               exact absurd H (by simp)
             ·rw [if_neg c32] at H
              exact absurd H (by simp)
            ·rw [if_neg c31] at H
             exact absurd H (by simp)
           ·rw [if_neg c30] at H
            exact absurd H (by simp)
          ·rw [if_neg c29] at H
           exact absurd H (by simp)
         ·rw [if_neg c28] at H
          exact absurd H (by simp)
        ·rw [if_neg c27] at H
         have c27b0 : decide (x13_1 < ((rd_T54 l2 x14_1).f1)) = false := decide_eq_false c27
         clear c27
         have H' := Aside0.mk H
         clear H
         try go_wp2
         have n0_ := Aside0.mk (Kd.V_drew HO_0.out)
         have n1_ := Aside0.mk (Kd.V_drew HO_1.out)
         have n2_ := Aside0.mk (Kd.N_drew HO_11.out)
         have n3_ := Aside0.mk (below_drew1 HB.out)
         clear HO_0
         clear HO_1
         clear HO_11
         clear HB
         have HO_0 := n0_
         have HO_1 := n1_
         have HO_11 := n2_
         have HB := n3_
         clear n0_ n1_ n2_ n3_
         have p263 : 0 ≤ (x14_1 : Int) := of_decide_eq_true (by first | (with_reducible assumption) | assumption)
         have q263 : x14_1 < (l2.length : Int) := of_decide_eq_true (by first | (with_reducible assumption) | assumption)
         obtain ⟨ad263, e263, hx263_0, hx263_1⟩ := at_T54 HR2.out x14_1 p263 q263
         have hw263_1 := hx263_1
         have hw263_0 := hx263_0
         cases e263
         replace hx263_0 := (HB.out.cell (World.block_lt_of_cell? w _ hx263_0)).trans hx263_0
         replace hx263_1 := (HB.out.cell (World.block_lt_of_cell? w _ hx263_1)).trans hx263_1
         replace p263 := eq_true p263
         replace q263 := eq_true q263
         have p264 : 0 ≤ (x14_1 : Int) := of_decide_eq_true (by first | (with_reducible assumption) | assumption)
         have q264 : x14_1 < (l2.length : Int) := of_decide_eq_true (by first | (with_reducible assumption) | assumption)
         obtain ⟨ad264, e264, hx264_0, hx264_1⟩ := at_T54 HR2.out x14_1 p264 q264
         have hw264_1 := hx264_1
         have hw264_0 := hx264_0
         obtain rfl : ad263 = ad264 := (by injection e264)
         replace hx264_0 := (HB.out.cell (World.block_lt_of_cell? w _ hx264_0)).trans hx264_0
         replace hx264_1 := (HB.out.cell (World.block_lt_of_cell? w _ hx264_1)).trans hx264_1
         replace p264 := eq_true p264
         replace q264 := eq_true q264
         refine start_ (n := 12) (S := fun w' => w'.cell? (ad263.add ((x14_1).toNat * 2)) = some (.int .i64 ((rd_T54 l2 x14_1).f0)) ∧ w'.cell? ⟨(ad263.add ((x14_1).toNat * 2)).block, (ad263.add ((x14_1).toNat * 2)).off + 1, none⟩ = some (.int .i64 ((rd_T54 l2 x14_1).f1)) ∧ w'.cell? (ad263.add ((x14_1).toNat * 2)) = some (.int .i64 ((rd_T54 l2 x14_1).f0)) ∧ w'.cell? ⟨(ad263.add ((x14_1).toNat * 2)).block, (ad263.add ((x14_1).toNat * 2)).off + 1, none⟩ = some (.int .i64 ((rd_T54 l2 x14_1).f1))) (ds := []) #[N,N,N,N,N,N,N,N,N,N,N,N] (by kernel_rfl) rfl rfl ⟨((HB.out.cell (World.block_lt_of_cell? w _ hw263_0)).trans hw263_0), ((HB.out.cell (World.block_lt_of_cell? w _ hw263_1)).trans hw263_1), ((HB.out.cell (World.block_lt_of_cell? w _ hw264_0)).trans hw264_0), ((HB.out.cell (World.block_lt_of_cell? w _ hw264_1)).trans hw264_1)⟩ (fun hHeld => ?_); refine with_tabW tattingref24_Make.tab11 tattingref24_Make.bits11 (fun HT_ HW_ => ?_)
         generalize wr.drew = w40 at HO_0 HO_1 HO_11 HB hx263_0 hx263_1 hx264_0 hx264_1 hHeld ⊢
         refine pure_ (i := 0) (N := some 43) (v := ?_) (a' := ?_) #[Y,N,N,N,N,N,N,N,N,N,N,N] rfl rfl (any_of HT_.out (by kernel_rfl)) (fun _ _ _ h => h) (Or.inl ⟨by rfl, ?_⟩) ?_ ?_; rotate_left
         ·intro w'; go_simp; with_reducible rfl
         rotate_left
         ·simp only [Act.put, sA,sB,sC, i64_w, i32_w]; rfl
         refine pure_ (i := 1) (N := some 44) (v := ?_) (a' := ?_) #[Y,Y,N,N,N,N,N,N,N,N,N,N] rfl rfl (any_of HT_.out (by kernel_rfl)) (fun _ _ _ h => h) (Or.inl ⟨by rfl, ?_⟩) ?_ ?_; rotate_left
         ·intro w'; go_simp; with_reducible rfl
         rotate_left
         ·simp only [Act.put, sA,sB,sC, i64_w, i32_w]; rfl
         refine pure_ (i := 2) (N := some 45) (v := ?_) (a' := ?_) #[Y,Y,Y,N,N,N,N,N,N,N,N,N] rfl rfl (any_of HT_.out (by kernel_rfl)) (fun _ _ _ h => h) (Or.inl ⟨by rfl, ?_⟩) ?_ ?_; rotate_left
         ·intro w'; go_simp; with_reducible rfl
         rotate_left
         ·simp only [Act.put, sA,sB,sC, i64_w, i32_w]; rfl
         refine pure_ (i := 3) (N := some 46) (v := ?_) (a' := ?_) #[Y,Y,Y,Y,N,N,N,N,N,N,N,N] rfl rfl (any_of HT_.out (by kernel_rfl)) (fun _ _ _ h => h) (Or.inl ⟨by rfl, ?_⟩) ?_ ?_; rotate_left
         ·intro w'; go_simp; with_reducible rfl
         rotate_left
         ·simp only [Act.put, sA,sB,sC, i64_w, i32_w]; rfl
         refine pure_ (i := 5) (N := some 48) (v := ?_) (a' := ?_) #[Y,Y,Y,Y,N,Y,N,N,N,N,N,N] rfl rfl (any_of HT_.out (by kernel_rfl)) (fun _ _ _ h => h) (Or.inl ⟨by rfl, ?_⟩) ?_ ?_; rotate_left
         ·intro w'; go_simp; with_reducible rfl
         rotate_left
         ·simp only [Act.put, sA,sB,sC, i64_w, i32_w]; rfl
         refine pure_ (i := 6) (N := some 49) (v := ?_) (a' := ?_) #[Y,Y,Y,Y,N,Y,Y,N,N,N,N,N] rfl rfl (any_of HT_.out (by kernel_rfl)) (fun _ _ _ h => h) (Or.inl ⟨by rfl, ?_⟩) ?_ ?_; rotate_left
         ·intro w'; go_simp; with_reducible rfl
         rotate_left
         ·simp only [Act.put, sA,sB,sC, i64_w, i32_w]; rfl
         refine pure_ (i := 7) (N := some 50) (v := ?_) (a' := ?_) #[Y,Y,Y,Y,N,Y,Y,Y,N,N,N,N] rfl rfl (any_of HT_.out (by kernel_rfl)) (fun _ _ _ h => h) (Or.inl ⟨by rfl, ?_⟩) ?_ ?_; rotate_left
         ·intro w'; go_simp; with_reducible rfl
         rotate_left
         ·simp only [Act.put, sA,sB,sC, i64_w, i32_w]; rfl
         refine pure_ (i := 8) (N := some 51) (v := ?_) (a' := ?_) #[Y,Y,Y,Y,N,Y,Y,Y,Y,N,N,N] rfl rfl (any_of HT_.out (by kernel_rfl)) (fun _ _ _ h => h) (Or.inl ⟨by rfl, ?_⟩) ?_ ?_; rotate_left
         ·intro w'; go_simp; with_reducible rfl
         rotate_left
         ·simp only [Act.put, sA,sB,sC, i64_w, i32_w]; rfl
         refine take_ (i := 4) (N := some 47) (v := ?_) (a' := ?_) #[Y,Y,Y,Y,Y,Y,Y,Y,Y,N,N,N] rfl rfl (take_ofW HT_.out HW_.out (by kernel_rfl)) (fun _ _ _ h => h) (Or.inl ⟨by rfl, ?_⟩) hHeld ?_ ?_; rotate_left
         ·rintro w' ⟨s0, s1, s2, s3⟩; go_simp; with_reducible rfl
         rotate_left
         ·simp only [Act.put, sA,sB,sC, i64_w, i32_w]; rfl
         refine pure_ (i := 10) (N := some 15) (v := ?_) (a' := ?_) #[Y,Y,Y,Y,Y,Y,Y,Y,Y,N,Y,N] rfl rfl (any_of HT_.out (by kernel_rfl)) (fun _ _ _ h => h) (Or.inl ⟨by rfl, ?_⟩) ?_ ?_; rotate_left
         ·intro w'; go_simp; with_reducible rfl
         rotate_left
         ·simp only [Act.put, sA,sB,sC, i64_w, i32_w]; rfl
         refine take_ (i := 9) (N := some 52) (v := ?_) (a' := ?_) #[Y,Y,Y,Y,Y,Y,Y,Y,Y,Y,Y,N] rfl rfl (take_ofW HT_.out HW_.out (by kernel_rfl)) (fun _ _ _ h => h) (Or.inl ⟨by rfl, ?_⟩) hHeld ?_ ?_; rotate_left
         ·rintro w' ⟨s0, s1, s2, s3⟩; go_simp; with_reducible rfl
         rotate_left
         ·simp only [Act.put, sA,sB,sC, i64_w, i32_w]; rfl
         refine pure_ (i := 11) (N := some 16) (v := ?_) (a' := ?_) #[Y,Y,Y,Y,Y,Y,Y,Y,Y,Y,Y,Y] rfl rfl (any_of HT_.out (by kernel_rfl)) (fun _ _ _ h => h) (Or.inl ⟨by rfl, ?_⟩) ?_ ?_; rotate_left
         ·intro w'; go_simp; with_reducible rfl
         rotate_left
         ·simp only [Act.put, sA,sB,sC, i64_w, i32_w]; rfl
         refine done_ (done_of HT_.out (by kernel_rfl)) ?_
         try go_wp2
         go_roundg k1
         case measure => have := HK1.out; omega
         case rel => exact ⟨(x11_1), (wrap64 (((rd_T54 l2 x14_1).f0) + 1)), (wrap64 (((rd_T54 l2 x14_1).f1) + 1)), (wrap64 (x14_1 + 1)), (by first | rfl | (simp; done) | (simp [*]; done)), (by first | rfl | (simp; done) | (simp [*]; done)), (by first | rfl | (simp; done) | (simp [*]; done)), H', ⟨by have := HK1.out; omega⟩, ⟨by (with_reducible repeat (first | apply Kd.V_alloc | apply Kd.V_drewN | apply Kd.V_drew)); exact HO_0.out⟩, ⟨by (with_reducible repeat (first | apply Kd.V_alloc | apply Kd.V_drewN | apply Kd.V_drew)); exact HO_1.out⟩, ⟨by (with_reducible repeat (first | apply Kd.N_alloc | apply Kd.N_drewN | apply Kd.N_drew)); exact HO_11.out⟩, ⟨by repeat (first | (with_reducible first | exact HB.out | apply below_alloc | apply pw_below_drewN | apply below_drew1) | exact HB.out)⟩⟩
      ·rw [if_neg c13] at H
       exact absurd H (by simp)
     ·rw [if_neg c12] at H
      have c12b0 : decide (x14_1 < (l2.length : Int)) = false := decide_eq_false c12
      clear c12
      by_cases c41 : (l0.length : Int) > x12_1
      ·rw [if_pos c41] at H
       have c41b0 : decide (x12_1 < (l0.length : Int)) = true := decide_eq_true c41
       clear c41
       by_cases c42 : 0 ≤ x12_1
       ·rw [if_pos c42] at H
        have c42b0 := eq_true c42
        have c42b1 : decide (0 ≤ x12_1) = true := decide_eq_true c42
        clear c42
        by_cases c43 : x12_1 ≤ (l0.length : Int)
        ·rw [if_pos c43] at H
         have c43b0 := eq_true c43
         have c43b1 : decide (x12_1 ≤ (l0.length : Int)) = true := decide_eq_true c43
         clear c43
         by_cases c44 : (l0.length : Int) ≤ (l0.length : Int)
         ·rw [if_pos c44] at H
          have c44b0 := eq_true c44
          have c44b1 : decide ((l0.length : Int) ≤ (l0.length : Int)) = true := decide_eq_true c44
          clear c44
          obtain ⟨y291, hy291⟩ : ∃ y_ : List (List Int), y_ = ((l0.take ((l0.length : Int) : Int).toNat).drop (x12_1 : Int).toNat) := ⟨_, rfl⟩
          replace H : (if 0 ≤ x13_1 then (if x13_1 ≤ (l1.length : Int) then (if (l1.length : Int) ≤ (l1.length : Int) then (if x11_1.length < 2513169434916 then (tattingref24_Make.l0 k1 l0 l1 l2 (x11_1 ++ [(⟨x12_1, y291, ((l1.take ((l1.length : Int) : Int).toNat).drop (x13_1 : Int).toNat)⟩ : S28)]) (wrap64 ((l0.length : Int) + 1)) (wrap64 ((l1.length : Int) + 1)) (wrap64 (x14_1 + 1))) else (none)) else (none)) else (none)) else (none)) = some (r1, r2) := by first | (rw [hy291]; with_reducible exact H) | (have H2_ := (Option.bind_some _ _).symm.trans H; rw [hy291]; with_reducible exact H2_) | (have H2_ := (Option.bind_some _ _).symm.trans H; with_reducible exact H2_) | with_reducible exact H | (rw [hy291]; exact H) | exact H
          have Ny291 := Aside0.mk hy291
          clear hy291
          by_cases c45 : 0 ≤ x13_1
          ·rw [if_pos c45] at H
           have c45b0 := eq_true c45
           have c45b1 : decide (0 ≤ x13_1) = true := decide_eq_true c45
           clear c45
           by_cases c46 : x13_1 ≤ (l1.length : Int)
           ·rw [if_pos c46] at H
            have c46b0 := eq_true c46
            have c46b1 : decide (x13_1 ≤ (l1.length : Int)) = true := decide_eq_true c46
            clear c46
            by_cases c47 : (l1.length : Int) ≤ (l1.length : Int)
            ·rw [if_pos c47] at H
             have c47b0 := eq_true c47
             have c47b1 : decide ((l1.length : Int) ≤ (l1.length : Int)) = true := decide_eq_true c47
             clear c47
             obtain ⟨y296, hy296⟩ : ∃ y_ : List (List Int), y_ = ((l1.take ((l1.length : Int) : Int).toNat).drop (x13_1 : Int).toNat) := ⟨_, rfl⟩
             replace H : (if x11_1.length < 2513169434916 then (tattingref24_Make.l0 k1 l0 l1 l2 (x11_1 ++ [(⟨x12_1, y291, y296⟩ : S28)]) (wrap64 ((l0.length : Int) + 1)) (wrap64 ((l1.length : Int) + 1)) (wrap64 (x14_1 + 1))) else (none)) = some (r1, r2) := by first | (rw [hy296]; with_reducible exact H) | (have H2_ := (Option.bind_some _ _).symm.trans H; rw [hy296]; with_reducible exact H2_) | (have H2_ := (Option.bind_some _ _).symm.trans H; with_reducible exact H2_) | with_reducible exact H | (rw [hy296]; exact H) | exact H
             have Ny296 := Aside0.mk hy296
             clear hy296
             by_cases c48 : x11_1.length < 2513169434916
             ·rw [if_pos c48] at H
              have LMc48 := Aside0.mk c48
              clear c48
              obtain ⟨y301, hy301⟩ : ∃ y_ : List (S28), y_ = (x11_1 ++ [(⟨x12_1, y291, y296⟩ : S28)]) := ⟨_, rfl⟩
              replace H : (tattingref24_Make.l0 k1 l0 l1 l2 y301 (wrap64 ((l0.length : Int) + 1)) (wrap64 ((l1.length : Int) + 1)) (wrap64 (x14_1 + 1))) = some (r1, r2) := by first | (rw [hy301]; with_reducible exact H) | (have H2_ := (Option.bind_some _ _).symm.trans H; rw [hy301]; with_reducible exact H2_) | (have H2_ := (Option.bind_some _ _).symm.trans H; with_reducible exact H2_) | with_reducible exact H | (rw [hy301]; exact H) | exact H
              have Ny301 := Aside0.mk hy301
              clear hy301
              have H' := Aside0.mk H
              clear H
              try go_wp2
              have n0_ := Aside0.mk (Kd.V_drew HO_0.out)
              have n1_ := Aside0.mk (Kd.V_drew HO_1.out)
              have n2_ := Aside0.mk (Kd.N_drew HO_11.out)
              have n3_ := Aside0.mk (below_drew1 HB.out)
              clear HO_0
              clear HO_1
              clear HO_11
              clear HB
              have HO_0 := n0_
              have HO_1 := n1_
              have HO_11 := n2_
              have HB := n3_
              clear n0_ n1_ n2_ n3_
              have q50 : ((l0.length : Int) : Int) ≤ ((l0.length : Int) : Int) := of_decide_eq_true (by first | (with_reducible assumption) | assumption)
              obtain ⟨i050, hi050, _, hsz50, _⟩ := info_parts info22
              have hroom50 : l0.length ≤ c0 := (Kd.V_reads' HO_0.out).2.1
              have hC50 : Kd.F (Kd.slice 5 (Kd.int .u8)) _ _ A0 l0.length l0 := (Kd.V_at (base := w.heap.size) HO_0.out).2.2
              have ql50 : (x12_1 : Int) ≤ ((l0.length : Int) : Int) := of_decide_eq_true (by first | (with_reducible assumption) | assumption)
              have q050 : (0 : Int) ≤ (x12_1 : Int) := of_decide_eq_true (by first | (with_reducible assumption) | assumption)
              have hcut50 := cut_mid (P := Try.prog) 23 22 .i64 .i64 Try.underlying23 hi050 1 hsz50 A0 l0.length c0 x12_1 (l0.length : Int) q050 ql50 q50 hroom50
              have hr50 := Kd.F_mid (lo := (x12_1 : Int).toNat) (hi := ((l0.length : Int) : Int).toNat) (c := c0) hC50 (by omega) (by omega) hroom50
              obtain ⟨A50, hA50⟩ : ∃ z_, z_ = (if c0 = (x12_1 : Int).toNat then A0 else (A0 : Option Addr).map (·.add ((x12_1 : Int).toNat * 1))) := ⟨_, rfl⟩
              obtain ⟨c50, hc50⟩ : ∃ z_, z_ = c0 - (x12_1 : Int).toNat := ⟨_, rfl⟩
              have hy50 : y291.length = ((l0.length : Int) : Int).toNat - (x12_1 : Int).toNat := (by rw [Ny291.out, List.length_drop, List.length_take] <;> omega)
              rw [show ((l0).take ((l0.length : Int) : Int).toNat).drop (x12_1 : Int).toNat = y291 from Ny291.out.symm] at hr50
              replace hr50 : Kd.F (Kd.slice 5 (Kd.int .u8)) _ _ A50 y291.length y291 := (by rw [hA50]; exact hr50)
              rw [← hy50, ← hA50, ← hc50] at hcut50
              have HO295 := Aside0.mk (show Kd.V (Kd.slice 5 (Kd.int .u8)) 22 _ w.heap.size _ (.slice A50 y291.length c50) y291 from Kd.V_mk (by rw [hy50, hc50]; exact Nat.sub_le_sub_right (Nat.le_trans (by omega) hroom50) _) hr50)
              have HC295 := Aside0.mk (show y291.length ≤ c50 from by rw [hy50, hc50]; exact Nat.sub_le_sub_right (Nat.le_trans (by omega) hroom50) _)
              clear hr50 hC50 hroom50 hi050 hsz50 hc50
              have KY50 := Aside0.mk hy50
              have KA50 := Aside0.mk hA50
              clear hy50 hA50
              replace q50 := eq_true q50
              have q51 : ((l1.length : Int) : Int) ≤ ((l1.length : Int) : Int) := of_decide_eq_true (by first | (with_reducible assumption) | assumption)
              obtain ⟨i051, hi051, _, hsz51, _⟩ := info_parts info22
              have hroom51 : l1.length ≤ c1 := (Kd.V_reads' HO_1.out).2.1
              have hC51 : Kd.F (Kd.slice 5 (Kd.int .u8)) _ _ A1 l1.length l1 := (Kd.V_at (base := w.heap.size) HO_1.out).2.2
              have ql51 : (x13_1 : Int) ≤ ((l1.length : Int) : Int) := of_decide_eq_true (by first | (with_reducible assumption) | assumption)
              have q051 : (0 : Int) ≤ (x13_1 : Int) := of_decide_eq_true (by first | (with_reducible assumption) | assumption)
              have hcut51 := cut_mid (P := Try.prog) 23 22 .i64 .i64 Try.underlying23 hi051 1 hsz51 A1 l1.length c1 x13_1 (l1.length : Int) q051 ql51 q51 hroom51
              have hr51 := Kd.F_mid (lo := (x13_1 : Int).toNat) (hi := ((l1.length : Int) : Int).toNat) (c := c1) hC51 (by omega) (by omega) hroom51
              obtain ⟨A51, hA51⟩ : ∃ z_, z_ = (if c1 = (x13_1 : Int).toNat then A1 else (A1 : Option Addr).map (·.add ((x13_1 : Int).toNat * 1))) := ⟨_, rfl⟩
              obtain ⟨c51, hc51⟩ : ∃ z_, z_ = c1 - (x13_1 : Int).toNat := ⟨_, rfl⟩
              have hy51 : y296.length = ((l1.length : Int) : Int).toNat - (x13_1 : Int).toNat := (by rw [Ny296.out, List.length_drop, List.length_take] <;> omega)
              rw [show ((l1).take ((l1.length : Int) : Int).toNat).drop (x13_1 : Int).toNat = y296 from Ny296.out.symm] at hr51
              replace hr51 : Kd.F (Kd.slice 5 (Kd.int .u8)) _ _ A51 y296.length y296 := (by rw [hA51]; exact hr51)
              rw [← hy51, ← hA51, ← hc51] at hcut51
              have HO300 := Aside0.mk (show Kd.V (Kd.slice 5 (Kd.int .u8)) 22 _ w.heap.size _ (.slice A51 y296.length c51) y296 from Kd.V_mk (by rw [hy51, hc51]; exact Nat.sub_le_sub_right (Nat.le_trans (by omega) hroom51) _) hr51)
              have HC300 := Aside0.mk (show y296.length ≤ c51 from by rw [hy51, hc51]; exact Nat.sub_le_sub_right (Nat.le_trans (by omega) hroom51) _)
              clear hr51 hC51 hroom51 hi051 hsz51 hc51
              have KY51 := Aside0.mk hy51
              have KA51 := Aside0.mk hA51
              clear hy51 hA51
              replace q51 := eq_true q51
              refine start_ (n := 14) (S := fun w' => True) (ds := []) #[N,N,N,N,N,N,N,N,N,N,N,N,N,N] (by kernel_rfl) rfl rfl trivial (fun hHeld => ?_); refine with_tabW tattingref24_Make.tab13 tattingref24_Make.bits13 (fun HT_ HW_ => ?_)
              generalize wr.drew = w49 at HO_0 HO_1 HO_11 HB HO295 HO300 hHeld ⊢
              refine pure_ (i := 0) (N := some 61) (v := ?_) (a' := ?_) #[Y,N,N,N,N,N,N,N,N,N,N,N,N,N] rfl rfl (any_of HT_.out (by kernel_rfl)) (fun _ _ _ h => h) (Or.inl ⟨by rfl, ?_⟩) ?_ ?_; rotate_left
              ·intro w'; go_simp; with_reducible rfl
              rotate_left
              ·simp only [Act.put, sA,sB,sC, i64_w, i32_w]; rfl
              refine pure_ (i := 1) (N := some 62) (v := ?_) (a' := ?_) #[Y,Y,N,N,N,N,N,N,N,N,N,N,N,N] rfl rfl (any_of HT_.out (by kernel_rfl)) (fun _ _ _ h => h) (Or.inl ⟨by rfl, ?_⟩) ?_ ?_; rotate_left
              ·intro w'; go_simp; with_reducible rfl
              rotate_left
              ·simp only [Act.put, sA,sB,sC, i64_w, i32_w]; rfl
              refine pure_ (i := 2) (N := some 63) (v := ?_) (a' := ?_) #[Y,Y,Y,N,N,N,N,N,N,N,N,N,N,N] rfl rfl (any_of HT_.out (by kernel_rfl)) (fun _ _ _ h => h) (Or.inl ⟨by rfl, ?_⟩) ?_ ?_; rotate_left
              ·intro w'; go_simp; with_reducible rfl
              rotate_left
              ·simp only [Act.put, sA,sB,sC, i64_w, i32_w]; rfl
              refine pure_ (i := 3) (N := some 64) (v := ?_) (a' := ?_) #[Y,Y,Y,Y,N,N,N,N,N,N,N,N,N,N] rfl rfl (any_of HT_.out (by kernel_rfl)) (fun _ _ _ h => h) (Or.inl ⟨by rfl, ?_⟩) ?_ ?_; rotate_left
              ·intro w'; go_simp; with_reducible rfl
              rotate_left
              ·simp only [Act.put, sA,sB,sC, i64_w, i32_w]; rfl
              refine pure_ (i := 4) (N := some 65) (v := ?_) (a' := ?_) #[Y,Y,Y,Y,Y,N,N,N,N,N,N,N,N,N] rfl rfl (any_of HT_.out (by kernel_rfl)) (fun _ _ _ h => h) (Or.inl ⟨by rfl, ?_⟩) ?_ ?_; rotate_left
              ·intro w'; go_simp; with_reducible rfl
              rotate_left
              ·simp only [Act.put, sA,sB,sC, i64_w, i32_w]; rfl
              refine pure_ (i := 5) (N := some 66) (v := ?_) (a' := ?_) #[Y,Y,Y,Y,Y,Y,N,N,N,N,N,N,N,N] rfl rfl (any_of HT_.out (by kernel_rfl)) (fun _ _ _ h => h) (Or.inl ⟨by rfl, ?_⟩) ?_ ?_; rotate_left
              ·intro w'; go_simp; with_reducible rfl
              rotate_left
              ·simp only [Act.put, sA,sB,sC, i64_w, i32_w]; rfl
              refine pure_ (i := 6) (N := some 67) (v := ?_) (a' := ?_) #[Y,Y,Y,Y,Y,Y,Y,N,N,N,N,N,N,N] rfl rfl (any_of HT_.out (by kernel_rfl)) (fun _ _ _ h => h) (Or.inl ⟨by rfl, ?_⟩) ?_ ?_; rotate_left
              ·intro w'; go_simp; with_reducible rfl
              rotate_left
              ·simp only [Act.put, sA,sB,sC, i64_w, i32_w]; rfl
              refine pure_ (i := 7) (N := some 68) (v := ?_) (a' := ?_) #[Y,Y,Y,Y,Y,Y,Y,Y,N,N,N,N,N,N] rfl rfl (any_of HT_.out (by kernel_rfl)) (fun _ _ _ h => h) (Or.inl ⟨by rfl, ?_⟩) ?_ ?_; rotate_left
              ·intro w'; go_simp; with_reducible rfl
              rotate_left
              ·simp only [Act.put, sA,sB,sC, i64_w, i32_w]; rfl
              refine pure_ (i := 8) (N := some 69) (v := ?_) (a' := ?_) #[Y,Y,Y,Y,Y,Y,Y,Y,Y,N,N,N,N,N] rfl rfl (any_of HT_.out (by kernel_rfl)) (fun _ _ _ h => h) (Or.inl ⟨by rfl, ?_⟩) ?_ ?_; rotate_left
              ·intro w'; go_simp; with_reducible rfl
              rotate_left
              ·simp only [Act.put, sA,sB,sC, i64_w, i32_w]; rfl
              refine pure_ (i := 9) (N := some 70) (v := ?_) (a' := ?_) #[Y,Y,Y,Y,Y,Y,Y,Y,Y,Y,N,N,N,N] rfl rfl (any_of HT_.out (by kernel_rfl)) (fun _ _ _ h => h) (Or.inl ⟨by rfl, ?_⟩) ?_ ?_; rotate_left
              ·intro w'; go_simp; with_reducible rfl
              rotate_left
              ·simp only [Act.put, sA,sB,sC, i64_w, i32_w]; rfl
              refine pure_ (i := 10) (N := some 71) (v := ?_) (a' := ?_) #[Y,Y,Y,Y,Y,Y,Y,Y,Y,Y,Y,N,N,N] rfl rfl (any_of HT_.out (by kernel_rfl)) (fun _ _ _ h => h) (Or.inl ⟨by rfl, ?_⟩) ?_ ?_; rotate_left
              ·intro w'; go_simp; with_reducible rfl
              rotate_left
              ·simp only [Act.put, sA,sB,sC, i64_w, i32_w]; rfl
              refine one_ (i := 11) (N := some 72) #[Y,Y,Y,Y,Y,Y,Y,Y,Y,Y,Y,Y,N,N] rfl rfl (one_of HT_.out (by kernel_rfl)) (by decide) (fun K hK => ?_)
              refine value_ (w1 := ?_) (v := ?_) (by rfl) rfl ?_ ?_
              rotate_left 2
              ·go_simp
               constructor
               ·rfl
               ·rfl
              refine hK.out _ _ trivial (fun hHeld => ?_)
              clear hK K
              refine norm_ (a' := ?_) ?_ ?_
              rotate_left
              ·show Act.put _ (some 72) _ = _
               simp only [Act.put, sA,sB,sC, i64_w, i32_w]; rfl
              refine one_ (i := 12) (N := some 73) #[Y,Y,Y,Y,Y,Y,Y,Y,Y,Y,Y,Y,Y,N] rfl rfl (one_of HT_.out (by kernel_rfl)) (by decide) (fun K hK => ?_)
              refine Kd.N_append_step k28 (w0 := w) w.heap.size (by rfl) (.tmp 61) (.tmp 72) 29 28 (.agg #[(.int .i64 0), (.slice none 0 0), (.slice none 0 0)]) 56 rfl Try.underlying29 info28 rfl (by decide) (by omega) u11 x11_1 (⟨x12_1, y291, y296⟩ : S28) [.int .i64 x12_1, .slice A50 y291.length c50, .slice A51 y296.length c51] (fun k_ => ((P0_ k_ ∨ P1_ k_) ∨ w.heap.size ≤ k_)) (fun k_ => ((fun k_ => ((P0_ k_ ∨ P1_ k_) ∨ w.heap.size ≤ k_))) k_ ∧ some k_ ≠ (u11 : Value).ownBlock) rfl rfl ?aP (fun _ hk => hk) ?aF ?aO ?aB ?aS ?aL ?_
              (case aP => exact (k28_mkF _ _ (⟨x12_1, y291, y296⟩ : S28) (Kd.V_reads' (Kd.V_mono (ok' := (fun k_ => ((fun k_ => ((P0_ k_ ∨ P1_ k_) ∨ w.heap.size ≤ k_))) k_ ∧ some k_ ≠ (u11 : Value).ownBlock)) (HO295.out) (fun k_ hk => ⟨hk.1, hk.2⟩))).2.1 (Kd.V_F (Kd.V_mono (ok' := (fun k_ => ((fun k_ => ((P0_ k_ ∨ P1_ k_) ∨ w.heap.size ≤ k_))) k_ ∧ some k_ ≠ (u11 : Value).ownBlock)) (HO295.out) (fun k_ hk => ⟨hk.1, hk.2⟩))) (Kd.V_reads' (Kd.V_mono (ok' := (fun k_ => ((fun k_ => ((P0_ k_ ∨ P1_ k_) ∨ w.heap.size ≤ k_))) k_ ∧ some k_ ≠ (u11 : Value).ownBlock)) (HO300.out) (fun k_ hk => ⟨hk.1, hk.2⟩))).2.1 (Kd.V_F (Kd.V_mono (ok' := (fun k_ => ((fun k_ => ((P0_ k_ ∨ P1_ k_) ∨ w.heap.size ≤ k_))) k_ ∧ some k_ ≠ (u11 : Value).ownBlock)) (HO300.out) (fun k_ hk => ⟨hk.1, hk.2⟩)))))
              (case aB => exact (by repeat (first | (with_reducible first | exact HB.out | apply below_alloc | apply pw_below_drewN | apply below_drew1) | exact HB.out)))
              (case aF => exact (fun k_ hk => (.inr (Nat.le_trans (below_size (by repeat (first | (with_reducible first | exact HB.out | apply below_alloc | apply pw_below_drewN | apply below_drew1) | exact HB.out))) hk))))
              (case aO => exact (by (with_reducible repeat (first | apply Kd.N_alloc | apply Kd.N_drewN | apply Kd.N_drew)); exact HO_11.out))
              (case aS => exact (below_size (by repeat (first | (with_reducible first | exact HB.out | apply below_alloc | apply pw_below_drewN | apply below_drew1) | exact HB.out))))
              (case aL => have := LMc48.out; omega)
              intro v302 w52 ho hb hg hat
              rw [← Ny301.out] at ho
              have n0_ := Aside0.mk (Kd.V_afterv (ok := (fun k_ => ((P0_ k_ ∨ P1_ k_) ∨ w.heap.size ≤ k_))) (by (with_reducible repeat (first | apply Kd.V_alloc | apply Kd.V_drewN | apply Kd.V_drew)); exact HO_0.out) hg hat)
              have n1_ := Aside0.mk (Kd.V_afterv (ok := (fun k_ => ((P0_ k_ ∨ P1_ k_) ∨ w.heap.size ≤ k_))) (by (with_reducible repeat (first | apply Kd.V_alloc | apply Kd.V_drewN | apply Kd.V_drew)); exact HO_1.out) hg hat)
              have n2_ := Aside0.mk (Kd.V_afterv (ok := (fun k_ => ((P0_ k_ ∨ P1_ k_) ∨ w.heap.size ≤ k_))) (by (with_reducible repeat (first | apply Kd.V_alloc | apply Kd.V_drewN | apply Kd.V_drew)); exact HO295.out) hg hat)
              have n3_ := Aside0.mk (Kd.V_afterv (ok := (fun k_ => ((P0_ k_ ∨ P1_ k_) ∨ w.heap.size ≤ k_))) (by (with_reducible repeat (first | apply Kd.V_alloc | apply Kd.V_drewN | apply Kd.V_drew)); exact HO300.out) hg hat)
              have n4_ := Aside0.mk (hb)
              have n5_ := Aside0.mk (ho)
              clear HO_0
              clear HO_1
              clear HO295
              clear HO300
              clear HB
              clear HO_11
              have HO_0 := n0_
              have HO_1 := n1_
              have HO295 := n2_
              have HO300 := n3_
              have HB := n4_
              have HO303 := n5_
              clear n0_ n1_ n2_ n3_ n4_ n5_
              clear ho hb hg hat
              refine hK.out _ _ trivial (fun hHeld => ?_)
              clear hK K
              refine norm_ (a' := ?_) ?_ ?_
              rotate_left
              ·show Act.put _ (some 73) _ = _
               simp only [Act.put, sA,sB,sC, i64_w, i32_w]; rfl
              refine pure_ (i := 13) (N := some 11) (v := ?_) (a' := ?_) #[Y,Y,Y,Y,Y,Y,Y,Y,Y,Y,Y,Y,Y,Y] rfl rfl (any_of HT_.out (by kernel_rfl)) (fun _ _ _ h => h) (Or.inl ⟨by rfl, ?_⟩) ?_ ?_; rotate_left
              ·intro w'; go_simp; with_reducible rfl
              rotate_left
              ·simp only [Act.put, sA,sB,sC, i64_w, i32_w]; rfl
              refine done_ (done_of HT_.out (by kernel_rfl)) ?_
              try go_wp2
              go_roundg k1
              case measure => have := HK1.out; omega
              case rel => exact ⟨(y301), (wrap64 ((l0.length : Int) + 1)), (wrap64 ((l1.length : Int) + 1)), (wrap64 (x14_1 + 1)), (by first | rfl | (simp; done) | (simp [*]; done)), (by first | rfl | (simp; done) | (simp [*]; done)), (by first | rfl | (simp; done) | (simp [*]; done)), H', ⟨by have := HK1.out; omega⟩, ⟨by (with_reducible repeat (first | apply Kd.V_alloc | apply Kd.V_drewN | apply Kd.V_drew)); exact HO_0.out⟩, ⟨by (with_reducible repeat (first | apply Kd.V_alloc | apply Kd.V_drewN | apply Kd.V_drew)); exact HO_1.out⟩, ⟨by (with_reducible repeat (first | apply Kd.N_alloc | apply Kd.N_drewN | apply Kd.N_drew)); exact HO303.out⟩, ⟨by repeat (first | (with_reducible first | exact HB.out | apply below_alloc | apply pw_below_drewN | apply below_drew1) | exact HB.out)⟩⟩
             ·rw [if_neg c48] at H
              exact absurd H (by simp)
            ·rw [if_neg c47] at H
             exact absurd H (by simp)
           ·rw [if_neg c46] at H
            exact absurd H (by simp)
          ·rw [if_neg c45] at H
           exact absurd H (by simp)
         ·rw [if_neg c44] at H
          exact absurd H (by simp)
        ·rw [if_neg c43] at H
         exact absurd H (by simp)
       ·rw [if_neg c42] at H
        exact absurd H (by simp)
      ·rw [if_neg c41] at H
       have c41b0 : decide (x12_1 < (l0.length : Int)) = false := decide_eq_false c41
       clear c41
       by_cases c53 : (l1.length : Int) > x13_1
       ·rw [if_pos c53] at H
        have c53b0 : decide (x13_1 < (l1.length : Int)) = true := decide_eq_true c53
        clear c53
        by_cases c54 : 0 ≤ x12_1
        ·rw [if_pos c54] at H
         have c54b0 := eq_true c54
         have c54b1 : decide (0 ≤ x12_1) = true := decide_eq_true c54
         clear c54
         by_cases c55 : x12_1 ≤ (l0.length : Int)
         ·rw [if_pos c55] at H
          have c55b0 := eq_true c55
          have c55b1 : decide (x12_1 ≤ (l0.length : Int)) = true := decide_eq_true c55
          clear c55
          by_cases c56 : (l0.length : Int) ≤ (l0.length : Int)
          ·rw [if_pos c56] at H
           have c56b0 := eq_true c56
           have c56b1 : decide ((l0.length : Int) ≤ (l0.length : Int)) = true := decide_eq_true c56
           clear c56
           obtain ⟨y304, hy304⟩ : ∃ y_ : List (List Int), y_ = ((l0.take ((l0.length : Int) : Int).toNat).drop (x12_1 : Int).toNat) := ⟨_, rfl⟩
           replace H : (if 0 ≤ x13_1 then (if x13_1 ≤ (l1.length : Int) then (if (l1.length : Int) ≤ (l1.length : Int) then (if x11_1.length < 2513169434916 then (tattingref24_Make.l0 k1 l0 l1 l2 (x11_1 ++ [(⟨x12_1, y304, ((l1.take ((l1.length : Int) : Int).toNat).drop (x13_1 : Int).toNat)⟩ : S28)]) (wrap64 ((l0.length : Int) + 1)) (wrap64 ((l1.length : Int) + 1)) (wrap64 (x14_1 + 1))) else (none)) else (none)) else (none)) else (none)) = some (r1, r2) := by first | (rw [hy304]; with_reducible exact H) | (have H2_ := (Option.bind_some _ _).symm.trans H; rw [hy304]; with_reducible exact H2_) | (have H2_ := (Option.bind_some _ _).symm.trans H; with_reducible exact H2_) | with_reducible exact H | (rw [hy304]; exact H) | exact H
           have Ny304 := Aside0.mk hy304
           clear hy304
           by_cases c57 : 0 ≤ x13_1
           ·rw [if_pos c57] at H
            have c57b0 := eq_true c57
            have c57b1 : decide (0 ≤ x13_1) = true := decide_eq_true c57
            clear c57
            by_cases c58 : x13_1 ≤ (l1.length : Int)
            ·rw [if_pos c58] at H
             have c58b0 := eq_true c58
             have c58b1 : decide (x13_1 ≤ (l1.length : Int)) = true := decide_eq_true c58
             clear c58
             by_cases c59 : (l1.length : Int) ≤ (l1.length : Int)
             ·rw [if_pos c59] at H
              have c59b0 := eq_true c59
              have c59b1 : decide ((l1.length : Int) ≤ (l1.length : Int)) = true := decide_eq_true c59
              clear c59
              obtain ⟨y309, hy309⟩ : ∃ y_ : List (List Int), y_ = ((l1.take ((l1.length : Int) : Int).toNat).drop (x13_1 : Int).toNat) := ⟨_, rfl⟩
              replace H : (if x11_1.length < 2513169434916 then (tattingref24_Make.l0 k1 l0 l1 l2 (x11_1 ++ [(⟨x12_1, y304, y309⟩ : S28)]) (wrap64 ((l0.length : Int) + 1)) (wrap64 ((l1.length : Int) + 1)) (wrap64 (x14_1 + 1))) else (none)) = some (r1, r2) := by first | (rw [hy309]; with_reducible exact H) | (have H2_ := (Option.bind_some _ _).symm.trans H; rw [hy309]; with_reducible exact H2_) | (have H2_ := (Option.bind_some _ _).symm.trans H; with_reducible exact H2_) | with_reducible exact H | (rw [hy309]; exact H) | exact H
              have Ny309 := Aside0.mk hy309
              clear hy309
              by_cases c60 : x11_1.length < 2513169434916
              ·rw [if_pos c60] at H
               have LMc60 := Aside0.mk c60
               clear c60
               obtain ⟨y314, hy314⟩ : ∃ y_ : List (S28), y_ = (x11_1 ++ [(⟨x12_1, y304, y309⟩ : S28)]) := ⟨_, rfl⟩
               replace H : (tattingref24_Make.l0 k1 l0 l1 l2 y314 (wrap64 ((l0.length : Int) + 1)) (wrap64 ((l1.length : Int) + 1)) (wrap64 (x14_1 + 1))) = some (r1, r2) := by first | (rw [hy314]; with_reducible exact H) | (have H2_ := (Option.bind_some _ _).symm.trans H; rw [hy314]; with_reducible exact H2_) | (have H2_ := (Option.bind_some _ _).symm.trans H; with_reducible exact H2_) | with_reducible exact H | (rw [hy314]; exact H) | exact H
               have Ny314 := Aside0.mk hy314
               clear hy314
               have H' := Aside0.mk H
               clear H
               try go_wp2
               have n0_ := Aside0.mk (Kd.V_drew HO_0.out)
               have n1_ := Aside0.mk (Kd.V_drew HO_1.out)
               have n2_ := Aside0.mk (Kd.N_drew HO_11.out)
               have n3_ := Aside0.mk (below_drew1 HB.out)
               clear HO_0
               clear HO_1
               clear HO_11
               clear HB
               have HO_0 := n0_
               have HO_1 := n1_
               have HO_11 := n2_
               have HB := n3_
               clear n0_ n1_ n2_ n3_
               have q62 : ((l0.length : Int) : Int) ≤ ((l0.length : Int) : Int) := of_decide_eq_true (by first | (with_reducible assumption) | assumption)
               obtain ⟨i062, hi062, _, hsz62, _⟩ := info_parts info22
               have hroom62 : l0.length ≤ c0 := (Kd.V_reads' HO_0.out).2.1
               have hC62 : Kd.F (Kd.slice 5 (Kd.int .u8)) _ _ A0 l0.length l0 := (Kd.V_at (base := w.heap.size) HO_0.out).2.2
               have ql62 : (x12_1 : Int) ≤ ((l0.length : Int) : Int) := of_decide_eq_true (by first | (with_reducible assumption) | assumption)
               have q062 : (0 : Int) ≤ (x12_1 : Int) := of_decide_eq_true (by first | (with_reducible assumption) | assumption)
               have hcut62 := cut_mid (P := Try.prog) 23 22 .i64 .i64 Try.underlying23 hi062 1 hsz62 A0 l0.length c0 x12_1 (l0.length : Int) q062 ql62 q62 hroom62
               have hr62 := Kd.F_mid (lo := (x12_1 : Int).toNat) (hi := ((l0.length : Int) : Int).toNat) (c := c0) hC62 (by omega) (by omega) hroom62
               obtain ⟨A62, hA62⟩ : ∃ z_, z_ = (if c0 = (x12_1 : Int).toNat then A0 else (A0 : Option Addr).map (·.add ((x12_1 : Int).toNat * 1))) := ⟨_, rfl⟩
               obtain ⟨c62, hc62⟩ : ∃ z_, z_ = c0 - (x12_1 : Int).toNat := ⟨_, rfl⟩
               have hy62 : y304.length = ((l0.length : Int) : Int).toNat - (x12_1 : Int).toNat := (by rw [Ny304.out, List.length_drop, List.length_take] <;> omega)
               rw [show ((l0).take ((l0.length : Int) : Int).toNat).drop (x12_1 : Int).toNat = y304 from Ny304.out.symm] at hr62
               replace hr62 : Kd.F (Kd.slice 5 (Kd.int .u8)) _ _ A62 y304.length y304 := (by rw [hA62]; exact hr62)
               rw [← hy62, ← hA62, ← hc62] at hcut62
               have HO308 := Aside0.mk (show Kd.V (Kd.slice 5 (Kd.int .u8)) 22 _ w.heap.size _ (.slice A62 y304.length c62) y304 from Kd.V_mk (by rw [hy62, hc62]; exact Nat.sub_le_sub_right (Nat.le_trans (by omega) hroom62) _) hr62)
               have HC308 := Aside0.mk (show y304.length ≤ c62 from by rw [hy62, hc62]; exact Nat.sub_le_sub_right (Nat.le_trans (by omega) hroom62) _)
               clear hr62 hC62 hroom62 hi062 hsz62 hc62
               have KY62 := Aside0.mk hy62
               have KA62 := Aside0.mk hA62
               clear hy62 hA62
               replace q62 := eq_true q62
               have q63 : ((l1.length : Int) : Int) ≤ ((l1.length : Int) : Int) := of_decide_eq_true (by first | (with_reducible assumption) | assumption)
               obtain ⟨i063, hi063, _, hsz63, _⟩ := info_parts info22
               have hroom63 : l1.length ≤ c1 := (Kd.V_reads' HO_1.out).2.1
               have hC63 : Kd.F (Kd.slice 5 (Kd.int .u8)) _ _ A1 l1.length l1 := (Kd.V_at (base := w.heap.size) HO_1.out).2.2
               have ql63 : (x13_1 : Int) ≤ ((l1.length : Int) : Int) := of_decide_eq_true (by first | (with_reducible assumption) | assumption)
               have q063 : (0 : Int) ≤ (x13_1 : Int) := of_decide_eq_true (by first | (with_reducible assumption) | assumption)
               have hcut63 := cut_mid (P := Try.prog) 23 22 .i64 .i64 Try.underlying23 hi063 1 hsz63 A1 l1.length c1 x13_1 (l1.length : Int) q063 ql63 q63 hroom63
               have hr63 := Kd.F_mid (lo := (x13_1 : Int).toNat) (hi := ((l1.length : Int) : Int).toNat) (c := c1) hC63 (by omega) (by omega) hroom63
               obtain ⟨A63, hA63⟩ : ∃ z_, z_ = (if c1 = (x13_1 : Int).toNat then A1 else (A1 : Option Addr).map (·.add ((x13_1 : Int).toNat * 1))) := ⟨_, rfl⟩
               obtain ⟨c63, hc63⟩ : ∃ z_, z_ = c1 - (x13_1 : Int).toNat := ⟨_, rfl⟩
               have hy63 : y309.length = ((l1.length : Int) : Int).toNat - (x13_1 : Int).toNat := (by rw [Ny309.out, List.length_drop, List.length_take] <;> omega)
               rw [show ((l1).take ((l1.length : Int) : Int).toNat).drop (x13_1 : Int).toNat = y309 from Ny309.out.symm] at hr63
               replace hr63 : Kd.F (Kd.slice 5 (Kd.int .u8)) _ _ A63 y309.length y309 := (by rw [hA63]; exact hr63)
               rw [← hy63, ← hA63, ← hc63] at hcut63
               have HO313 := Aside0.mk (show Kd.V (Kd.slice 5 (Kd.int .u8)) 22 _ w.heap.size _ (.slice A63 y309.length c63) y309 from Kd.V_mk (by rw [hy63, hc63]; exact Nat.sub_le_sub_right (Nat.le_trans (by omega) hroom63) _) hr63)
               have HC313 := Aside0.mk (show y309.length ≤ c63 from by rw [hy63, hc63]; exact Nat.sub_le_sub_right (Nat.le_trans (by omega) hroom63) _)
               clear hr63 hC63 hroom63 hi063 hsz63 hc63
               have KY63 := Aside0.mk hy63
               have KA63 := Aside0.mk hA63
               clear hy63 hA63
               replace q63 := eq_true q63
               refine start_ (n := 14) (S := fun w' => True) (ds := []) #[N,N,N,N,N,N,N,N,N,N,N,N,N,N] (by kernel_rfl) rfl rfl trivial (fun hHeld => ?_); refine with_tabW tattingref24_Make.tab13 tattingref24_Make.bits13 (fun HT_ HW_ => ?_)
               generalize wr.drew = w61 at HO_0 HO_1 HO_11 HB HO308 HO313 hHeld ⊢
               refine pure_ (i := 0) (N := some 61) (v := ?_) (a' := ?_) #[Y,N,N,N,N,N,N,N,N,N,N,N,N,N] rfl rfl (any_of HT_.out (by kernel_rfl)) (fun _ _ _ h => h) (Or.inl ⟨by rfl, ?_⟩) ?_ ?_; rotate_left
               ·intro w'; go_simp; with_reducible rfl
               rotate_left
               ·simp only [Act.put, sA,sB,sC, i64_w, i32_w]; rfl
               refine pure_ (i := 1) (N := some 62) (v := ?_) (a' := ?_) #[Y,Y,N,N,N,N,N,N,N,N,N,N,N,N] rfl rfl (any_of HT_.out (by kernel_rfl)) (fun _ _ _ h => h) (Or.inl ⟨by rfl, ?_⟩) ?_ ?_; rotate_left
               ·intro w'; go_simp; with_reducible rfl
               rotate_left
               ·simp only [Act.put, sA,sB,sC, i64_w, i32_w]; rfl
               refine pure_ (i := 2) (N := some 63) (v := ?_) (a' := ?_) #[Y,Y,Y,N,N,N,N,N,N,N,N,N,N,N] rfl rfl (any_of HT_.out (by kernel_rfl)) (fun _ _ _ h => h) (Or.inl ⟨by rfl, ?_⟩) ?_ ?_; rotate_left
               ·intro w'; go_simp; with_reducible rfl
               rotate_left
               ·simp only [Act.put, sA,sB,sC, i64_w, i32_w]; rfl
               refine pure_ (i := 3) (N := some 64) (v := ?_) (a' := ?_) #[Y,Y,Y,Y,N,N,N,N,N,N,N,N,N,N] rfl rfl (any_of HT_.out (by kernel_rfl)) (fun _ _ _ h => h) (Or.inl ⟨by rfl, ?_⟩) ?_ ?_; rotate_left
               ·intro w'; go_simp; with_reducible rfl
               rotate_left
               ·simp only [Act.put, sA,sB,sC, i64_w, i32_w]; rfl
               refine pure_ (i := 4) (N := some 65) (v := ?_) (a' := ?_) #[Y,Y,Y,Y,Y,N,N,N,N,N,N,N,N,N] rfl rfl (any_of HT_.out (by kernel_rfl)) (fun _ _ _ h => h) (Or.inl ⟨by rfl, ?_⟩) ?_ ?_; rotate_left
               ·intro w'; go_simp; with_reducible rfl
               rotate_left
               ·simp only [Act.put, sA,sB,sC, i64_w, i32_w]; rfl
               refine pure_ (i := 5) (N := some 66) (v := ?_) (a' := ?_) #[Y,Y,Y,Y,Y,Y,N,N,N,N,N,N,N,N] rfl rfl (any_of HT_.out (by kernel_rfl)) (fun _ _ _ h => h) (Or.inl ⟨by rfl, ?_⟩) ?_ ?_; rotate_left
               ·intro w'; go_simp; with_reducible rfl
               rotate_left
               ·simp only [Act.put, sA,sB,sC, i64_w, i32_w]; rfl
               refine pure_ (i := 6) (N := some 67) (v := ?_) (a' := ?_) #[Y,Y,Y,Y,Y,Y,Y,N,N,N,N,N,N,N] rfl rfl (any_of HT_.out (by kernel_rfl)) (fun _ _ _ h => h) (Or.inl ⟨by rfl, ?_⟩) ?_ ?_; rotate_left
               ·intro w'; go_simp; with_reducible rfl
               rotate_left
               ·simp only [Act.put, sA,sB,sC, i64_w, i32_w]; rfl
               refine pure_ (i := 7) (N := some 68) (v := ?_) (a' := ?_) #[Y,Y,Y,Y,Y,Y,Y,Y,N,N,N,N,N,N] rfl rfl (any_of HT_.out (by kernel_rfl)) (fun _ _ _ h => h) (Or.inl ⟨by rfl, ?_⟩) ?_ ?_; rotate_left
               ·intro w'; go_simp; with_reducible rfl
               rotate_left
               ·simp only [Act.put, sA,sB,sC, i64_w, i32_w]; rfl
               refine pure_ (i := 8) (N := some 69) (v := ?_) (a' := ?_) #[Y,Y,Y,Y,Y,Y,Y,Y,Y,N,N,N,N,N] rfl rfl (any_of HT_.out (by kernel_rfl)) (fun _ _ _ h => h) (Or.inl ⟨by rfl, ?_⟩) ?_ ?_; rotate_left
               ·intro w'; go_simp; with_reducible rfl
               rotate_left
               ·simp only [Act.put, sA,sB,sC, i64_w, i32_w]; rfl
               refine pure_ (i := 9) (N := some 70) (v := ?_) (a' := ?_) #[Y,Y,Y,Y,Y,Y,Y,Y,Y,Y,N,N,N,N] rfl rfl (any_of HT_.out (by kernel_rfl)) (fun _ _ _ h => h) (Or.inl ⟨by rfl, ?_⟩) ?_ ?_; rotate_left
               ·intro w'; go_simp; with_reducible rfl
               rotate_left
               ·simp only [Act.put, sA,sB,sC, i64_w, i32_w]; rfl
               refine pure_ (i := 10) (N := some 71) (v := ?_) (a' := ?_) #[Y,Y,Y,Y,Y,Y,Y,Y,Y,Y,Y,N,N,N] rfl rfl (any_of HT_.out (by kernel_rfl)) (fun _ _ _ h => h) (Or.inl ⟨by rfl, ?_⟩) ?_ ?_; rotate_left
               ·intro w'; go_simp; with_reducible rfl
               rotate_left
               ·simp only [Act.put, sA,sB,sC, i64_w, i32_w]; rfl
               refine one_ (i := 11) (N := some 72) #[Y,Y,Y,Y,Y,Y,Y,Y,Y,Y,Y,Y,N,N] rfl rfl (one_of HT_.out (by kernel_rfl)) (by decide) (fun K hK => ?_)
               refine value_ (w1 := ?_) (v := ?_) (by rfl) rfl ?_ ?_
               rotate_left 2
               ·go_simp
                constructor
                ·rfl
                ·rfl
               refine hK.out _ _ trivial (fun hHeld => ?_)
               clear hK K
               refine norm_ (a' := ?_) ?_ ?_
               rotate_left
               ·show Act.put _ (some 72) _ = _
                simp only [Act.put, sA,sB,sC, i64_w, i32_w]; rfl
               refine one_ (i := 12) (N := some 73) #[Y,Y,Y,Y,Y,Y,Y,Y,Y,Y,Y,Y,Y,N] rfl rfl (one_of HT_.out (by kernel_rfl)) (by decide) (fun K hK => ?_)
               refine Kd.N_append_step k28 (w0 := w) w.heap.size (by rfl) (.tmp 61) (.tmp 72) 29 28 (.agg #[(.int .i64 0), (.slice none 0 0), (.slice none 0 0)]) 56 rfl Try.underlying29 info28 rfl (by decide) (by omega) u11 x11_1 (⟨x12_1, y304, y309⟩ : S28) [.int .i64 x12_1, .slice A62 y304.length c62, .slice A63 y309.length c63] (fun k_ => ((P0_ k_ ∨ P1_ k_) ∨ w.heap.size ≤ k_)) (fun k_ => ((fun k_ => ((P0_ k_ ∨ P1_ k_) ∨ w.heap.size ≤ k_))) k_ ∧ some k_ ≠ (u11 : Value).ownBlock) rfl rfl ?aP (fun _ hk => hk) ?aF ?aO ?aB ?aS ?aL ?_
               (case aP => exact (k28_mkF _ _ (⟨x12_1, y304, y309⟩ : S28) (Kd.V_reads' (Kd.V_mono (ok' := (fun k_ => ((fun k_ => ((P0_ k_ ∨ P1_ k_) ∨ w.heap.size ≤ k_))) k_ ∧ some k_ ≠ (u11 : Value).ownBlock)) (HO308.out) (fun k_ hk => ⟨hk.1, hk.2⟩))).2.1 (Kd.V_F (Kd.V_mono (ok' := (fun k_ => ((fun k_ => ((P0_ k_ ∨ P1_ k_) ∨ w.heap.size ≤ k_))) k_ ∧ some k_ ≠ (u11 : Value).ownBlock)) (HO308.out) (fun k_ hk => ⟨hk.1, hk.2⟩))) (Kd.V_reads' (Kd.V_mono (ok' := (fun k_ => ((fun k_ => ((P0_ k_ ∨ P1_ k_) ∨ w.heap.size ≤ k_))) k_ ∧ some k_ ≠ (u11 : Value).ownBlock)) (HO313.out) (fun k_ hk => ⟨hk.1, hk.2⟩))).2.1 (Kd.V_F (Kd.V_mono (ok' := (fun k_ => ((fun k_ => ((P0_ k_ ∨ P1_ k_) ∨ w.heap.size ≤ k_))) k_ ∧ some k_ ≠ (u11 : Value).ownBlock)) (HO313.out) (fun k_ hk => ⟨hk.1, hk.2⟩)))))
               (case aB => exact (by repeat (first | (with_reducible first | exact HB.out | apply below_alloc | apply pw_below_drewN | apply below_drew1) | exact HB.out)))
               (case aF => exact (fun k_ hk => (.inr (Nat.le_trans (below_size (by repeat (first | (with_reducible first | exact HB.out | apply below_alloc | apply pw_below_drewN | apply below_drew1) | exact HB.out))) hk))))
               (case aO => exact (by (with_reducible repeat (first | apply Kd.N_alloc | apply Kd.N_drewN | apply Kd.N_drew)); exact HO_11.out))
               (case aS => exact (below_size (by repeat (first | (with_reducible first | exact HB.out | apply below_alloc | apply pw_below_drewN | apply below_drew1) | exact HB.out))))
               (case aL => have := LMc60.out; omega)
               intro v315 w64 ho hb hg hat
               rw [← Ny314.out] at ho
               have n0_ := Aside0.mk (Kd.V_afterv (ok := (fun k_ => ((P0_ k_ ∨ P1_ k_) ∨ w.heap.size ≤ k_))) (by (with_reducible repeat (first | apply Kd.V_alloc | apply Kd.V_drewN | apply Kd.V_drew)); exact HO_0.out) hg hat)
               have n1_ := Aside0.mk (Kd.V_afterv (ok := (fun k_ => ((P0_ k_ ∨ P1_ k_) ∨ w.heap.size ≤ k_))) (by (with_reducible repeat (first | apply Kd.V_alloc | apply Kd.V_drewN | apply Kd.V_drew)); exact HO_1.out) hg hat)
               have n2_ := Aside0.mk (Kd.V_afterv (ok := (fun k_ => ((P0_ k_ ∨ P1_ k_) ∨ w.heap.size ≤ k_))) (by (with_reducible repeat (first | apply Kd.V_alloc | apply Kd.V_drewN | apply Kd.V_drew)); exact HO308.out) hg hat)
               have n3_ := Aside0.mk (Kd.V_afterv (ok := (fun k_ => ((P0_ k_ ∨ P1_ k_) ∨ w.heap.size ≤ k_))) (by (with_reducible repeat (first | apply Kd.V_alloc | apply Kd.V_drewN | apply Kd.V_drew)); exact HO313.out) hg hat)
               have n4_ := Aside0.mk (hb)
               have n5_ := Aside0.mk (ho)
               clear HO_0
               clear HO_1
               clear HO308
               clear HO313
               clear HB
               clear HO_11
               have HO_0 := n0_
               have HO_1 := n1_
               have HO308 := n2_
               have HO313 := n3_
               have HB := n4_
               have HO316 := n5_
               clear n0_ n1_ n2_ n3_ n4_ n5_
               clear ho hb hg hat
               refine hK.out _ _ trivial (fun hHeld => ?_)
               clear hK K
               refine norm_ (a' := ?_) ?_ ?_
               rotate_left
               ·show Act.put _ (some 73) _ = _
                simp only [Act.put, sA,sB,sC, i64_w, i32_w]; rfl
               refine pure_ (i := 13) (N := some 11) (v := ?_) (a' := ?_) #[Y,Y,Y,Y,Y,Y,Y,Y,Y,Y,Y,Y,Y,Y] rfl rfl (any_of HT_.out (by kernel_rfl)) (fun _ _ _ h => h) (Or.inl ⟨by rfl, ?_⟩) ?_ ?_; rotate_left
               ·intro w'; go_simp; with_reducible rfl
               rotate_left
               ·simp only [Act.put, sA,sB,sC, i64_w, i32_w]; rfl
               refine done_ (done_of HT_.out (by kernel_rfl)) ?_
               try go_wp2
               go_roundg k1
               case measure => have := HK1.out; omega
               case rel => exact ⟨(y314), (wrap64 ((l0.length : Int) + 1)), (wrap64 ((l1.length : Int) + 1)), (wrap64 (x14_1 + 1)), (by first | rfl | (simp; done) | (simp [*]; done)), (by first | rfl | (simp; done) | (simp [*]; done)), (by first | rfl | (simp; done) | (simp [*]; done)), H', ⟨by have := HK1.out; omega⟩, ⟨by (with_reducible repeat (first | apply Kd.V_alloc | apply Kd.V_drewN | apply Kd.V_drew)); exact HO_0.out⟩, ⟨by (with_reducible repeat (first | apply Kd.V_alloc | apply Kd.V_drewN | apply Kd.V_drew)); exact HO_1.out⟩, ⟨by (with_reducible repeat (first | apply Kd.N_alloc | apply Kd.N_drewN | apply Kd.N_drew)); exact HO316.out⟩, ⟨by repeat (first | (with_reducible first | exact HB.out | apply below_alloc | apply pw_below_drewN | apply below_drew1) | exact HB.out)⟩⟩
              ·rw [if_neg c60] at H
               exact absurd H (by simp)
             ·rw [if_neg c59] at H
              exact absurd H (by simp)
            ·rw [if_neg c58] at H
             exact absurd H (by simp)
           ·rw [if_neg c57] at H
            exact absurd H (by simp)
          ·rw [if_neg c56] at H
           exact absurd H (by simp)
         ·rw [if_neg c55] at H
          exact absurd H (by simp)
        ·rw [if_neg c54] at H
         exact absurd H (by simp)
       ·rw [if_neg c53] at H
        have c53b0 : decide (x13_1 < (l1.length : Int)) = false := decide_eq_false c53
        clear c53
        have H' := Aside0.mk H
        clear H
        go_wp2
        go_roundg k1
        case measure => have := HK1.out; omega
        case rel => exact ⟨(x11_1), (wrap64 ((l0.length : Int) + 1)), (wrap64 ((l1.length : Int) + 1)), (wrap64 (x14_1 + 1)), (by first | rfl | (simp; done) | (simp [*]; done)), (by first | rfl | (simp; done) | (simp [*]; done)), (by first | rfl | (simp; done) | (simp [*]; done)), H', ⟨by have := HK1.out; omega⟩, ⟨by (with_reducible repeat (first | apply Kd.V_alloc | apply Kd.V_drewN | apply Kd.V_drew)); exact HO_0.out⟩, ⟨by (with_reducible repeat (first | apply Kd.V_alloc | apply Kd.V_drewN | apply Kd.V_drew)); exact HO_1.out⟩, ⟨by (with_reducible repeat (first | apply Kd.N_alloc | apply Kd.N_drewN | apply Kd.N_drew)); exact HO_11.out⟩, ⟨by repeat (first | (with_reducible first | exact HB.out | apply below_alloc | apply pw_below_drewN | apply below_drew1) | exact HB.out)⟩⟩
    ·rw [if_neg c11] at H
     have c11b0 : decide (x14_1 ≤ (l2.length : Int)) = false := decide_eq_false c11
     clear c11
     simp only [Option.some.injEq, Prod.mk.injEq] at H
     obtain ⟨rfl, rfl⟩ := H
     go_wp2
     go_ret2
     exact ⟨_, by first | rfl | (simp [errW_none, errW_some] <;> rfl) | (simp [*, errW_none, errW_some] <;> rfl), by (with_reducible repeat (first | apply Kd.N_alloc | apply Kd.N_drewN | apply Kd.N_drew)); exact HO_11.out, by repeat (first | (with_reducible first | exact HB.out | apply below_alloc | apply pw_below_drewN | apply below_drew1) | exact HB.out)⟩
 ·replace c6 := Bool.eq_false_iff.mpr c6
  subst c6
  have H1 : (some (([] : List (S28)), 1)) = some (r1, r2) := by rw [if_neg (show ¬ (false = true) by decide)] at H; exact H
  clear H
  have H := H1
  clear H1
  simp only [Option.some.injEq, Prod.mk.injEq] at H
  obtain ⟨rfl, rfl⟩ := H
  go_enter Try.func19, Try.ntmps19
  try dsimp only [List.append]
  go_wp2_with (first | ((first | (with_reducible refine gate_callee (f := 18) rfl ?_); refine goesL_ (some 20) rfl rfl Try.func18 (by kernel_rfl) rfl #[.slice A0 l0.length c0, .slice A1 l1.length c1] rfl (by (try simp only [List.map_toArray, List.map_cons, List.map_nil]); first | done | rfl | (simp only [List.length_drop, List.length_take]; rfl)) ?_ | go_at_call 18); (with_reducible refine (tattingref1_Two.calls k (fun k_ => ((P0_ k_ ∨ P1_ k_) ∨ w.heap.size ≤ k_)) _ _ l0 (fun k_ => ((P0_ k_ ∨ P1_ k_) ∨ w.heap.size ≤ k_)) _ _ l1 t255 t258 t261 _ ?side1 ?side2 A4.out).mono ?_); (case side1 => exact HO0.out); (case side2 => exact HO1.out); rintro e w65 ⟨v256, v259, rfl, ho0, ho1, hb⟩; (try refine ⟨_, rfl, ?_⟩); have n0_ := Aside0.mk (Kd.V_mono (Kd.V_told (Kd.V_told (Kd.V_old (by (with_reducible repeat (first | apply Kd.V_alloc | apply Kd.V_drewN | apply Kd.V_drew)); exact HO0.out) hb) (Kd.R_base ho0)) (Kd.R_base ho1)) (fun _ h_ => h_.1)); have n1_ := Aside0.mk (Kd.V_mono (Kd.V_told (Kd.V_told (Kd.V_old (by (with_reducible repeat (first | apply Kd.V_alloc | apply Kd.V_drewN | apply Kd.V_drew)); exact HO1.out) hb) (Kd.R_base ho0)) (Kd.R_base ho1)) (fun _ h_ => h_.1)); have n2_ := Aside0.mk (Kd.R_lower (Kd.R_newM (M := fun k_ => (w.heap.size ≤ k_)) (Kd.R_mono (ok' := fun k_ => some k_ ≠ (v259 : Value).ownBlock) ho0 (fun _ hk_ => hk_.2)) (below_size (by repeat (first | (with_reducible first | exact HB.out | apply below_alloc | apply pw_below_drewN | apply below_drew1) | exact HB.out))) (fun k_ h_ => h_)) (below_size (by repeat (first | (with_reducible first | exact HB.out | apply below_alloc | apply pw_below_drewN | apply below_drew1) | exact HB.out)))); have n3_ := Aside0.mk (Kd.R_lower (Kd.R_newM (M := fun k_ => (w.heap.size ≤ k_)) (Kd.R_mono (ok' := fun k_ => some k_ ≠ (v256 : Value).ownBlock) ho1 (fun _ hk_ => hk_.2)) (below_size (by repeat (first | (with_reducible first | exact HB.out | apply below_alloc | apply pw_below_drewN | apply below_drew1) | exact HB.out))) (fun k_ h_ => h_)) (below_size (by repeat (first | (with_reducible first | exact HB.out | apply below_alloc | apply pw_below_drewN | apply below_drew1) | exact HB.out)))); have n4_ := Aside0.mk (below_step (by repeat (first | (with_reducible first | exact HB.out | apply below_alloc | apply pw_below_drewN | apply below_drew1) | exact HB.out)) hb); clear HO0; clear HO1; clear HB; have HO0 := n0_; have HO1 := n1_; have HO257 := n2_; have HO260 := n3_; have HB := n4_; clear n0_ n1_ n2_ n3_ n4_; (try clear hb); (try clear hb2); (try clear hk); (try clear hi); (try clear ho0); (try clear ho1); obtain ⟨Ao66, co66, eo66⟩ := Kd.R_slice HO257.out; subst eo66; obtain ⟨Ao67, co67, eo67⟩ := Kd.R_slice HO260.out; subst eo67) | ((first | (with_reducible refine gate_callee (f := 29) rfl ?_); refine goesL_ (some 27) rfl rfl Try.func29 (by kernel_rfl) rfl #[.slice Ao66 t255.length co66, .slice Ao67 t258.length co67, .slice A2 l2.length c2] rfl (by (try simp only [List.map_toArray, List.map_cons, List.map_nil]); first | done | rfl | (simp only [List.length_drop, List.length_take]; rfl)) ?_ | go_at_call 29); (with_reducible refine (tattingref7_Good.calls k _ _ t255 _ _ t258 _ _ l2 false _ ?side1 ?side2 ?side3 ?side4 ?side5 ?side6 A5.out).mono ?_); (case side1 => repeat (first | exact (Kd.R_reads' HO257.out).2.2 | (with_reducible refine Kd.C_alloc ?_ _) | (with_reducible refine Kd.C_drewN ?_ _) | (with_reducible refine Kd.C_drew ?_))); (case side2 => exact (Kd.R_reads' HO257.out).2.1); (case side3 => repeat (first | exact (Kd.R_reads' HO260.out).2.2 | (with_reducible refine Kd.C_alloc ?_ _) | (with_reducible refine Kd.C_drewN ?_ _) | (with_reducible refine Kd.C_drew ?_))); (case side4 => exact (Kd.R_reads' HO260.out).2.1); (case side5 => repeat (first | exact (Kd.C_below HR2.out HB.out) | (with_reducible refine Kd.C_alloc ?_ _) | (with_reducible refine Kd.C_drewN ?_ _) | (with_reducible refine Kd.C_drew ?_))); (case side6 => exact HC2.out); rintro e w68 ⟨rfl, hb⟩; (try refine ⟨_, rfl, ?_⟩); have n0_ := Aside0.mk (Kd.V_below (by (with_reducible repeat (first | apply Kd.V_alloc | apply Kd.V_drewN | apply Kd.V_drew)); exact HO0.out) hb); have n1_ := Aside0.mk (Kd.V_below (by (with_reducible repeat (first | apply Kd.V_alloc | apply Kd.V_drewN | apply Kd.V_drew)); exact HO1.out) hb); have n2_ := Aside0.mk (Kd.R_below (by (with_reducible repeat (first | apply Kd.R_alloc | apply Kd.R_drewN | apply Kd.R_drew)); exact HO257.out) hb); have n3_ := Aside0.mk (Kd.R_below (by (with_reducible repeat (first | apply Kd.R_alloc | apply Kd.R_drewN | apply Kd.R_drew)); exact HO260.out) hb); have n4_ := Aside0.mk (below_step (by repeat (first | (with_reducible first | exact HB.out | apply below_alloc | apply pw_below_drewN | apply below_drew1) | exact HB.out)) hb); clear HO0; clear HO1; clear HO257; clear HO260; clear HB; have HO0 := n0_; have HO1 := n1_; have HO257 := n2_; have HO260 := n3_; have HB := n4_; clear n0_ n1_ n2_ n3_ n4_; (try clear hb); (try clear hb2); (try clear hk); (try clear hi)))
  go_ret2
  exact ⟨_, by first | rfl | (simp [errW_none, errW_some] <;> rfl) | (simp [*, errW_none, errW_some] <;> rfl), by first | exact Kd.R_nil _ _ _ _ _ | exact Kd.N_nil _ _ _ _ _ | exact Kd.V_nil _ _ _ _ _ | exact Kd.Q_nil _ _ _ _ _ | exact Kd.S_nil _ _ _ _ _, by repeat (first | (with_reducible first | exact HB.out | apply below_alloc | apply pw_below_drewN | apply below_drew1) | exact HB.out)⟩

end Go.Proofs.Ytlodaoijokfblaa.PPatchMade
