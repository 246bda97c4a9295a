/- What the given program's functions come to, each a Lean function and the walk that shows it: no condition beside those that each theorem names. -/
import Derived.Test.YtfmkiankjibkfaaPTokEndsx0
namespace Go.Proofs.Ytfmkiankjibkfaa.PTokEnds
open Go.RowKit Go.Proofs.YtfmkiankjibkfaaW.PrintWords Go.Proofs.YtfmkiankjibkfaaW.PrintLast Go.Proofs.YtfmkiankjibkfaaW.PrintMore
attribute [local go_sem] max2_int min2_int max_two min_two max_three min_three max_four min_four   -- for this text's walks alone
set_option linter.unusedVariables false
set_option linter.unusedSimpArgs false

/-! ### tok_isMode: function 21 -/
def tok_isMode.f (a0 : Int) : Option (Bool) := if a0 = 0 then (some true) else (some (a0 == 1))
set_option maxHeartbeats 8000000 in
set_option maxRecDepth 100000 in
theorem tok_isMode.calls (a0 : Int) (r : Bool) (w : World) (h : tok_isMode.f a0 = some r) :
  Calls Try.prog 21 #[.int .i64 a0] w fun e w' => e = .returned (.bool r) ∧ Drawn0 w w' := by
 have H : (if a0 = 0 then (some true) else (some (a0 == 1))) = some r := h
 clear h
 by_cases c2 : a0 = 0
 ·rw [if_pos c2] at H
  have c2b0 : (a0 == 0) = true := beq_iff_eq.mpr c2
  have c2b1 : (a0 != 0) = false := bne_eq_false_iff_eq.mpr c2
  clear c2
  obtain rfl := Option.some.inj H
  go_enter Try.func21, Try.ntmps21
  go_wp2
  go_ret
  exact ⟨by first | rfl | (simp; done) | (simp [*]; done), by repeat (first | exact Drawn0.refl _ | apply Drawn0.step)⟩
 ·rw [if_neg c2] at H
  have c2b0 : (a0 == 0) = false := beq_eq_false_iff_ne.mpr c2
  have c2b1 : (a0 != 0) = true := bne_iff_ne.mpr c2
  obtain rfl := Option.some.inj H
  go_enter Try.func21, Try.ntmps21
  go_wp2
  go_ret
  exact ⟨by first | rfl | (simp; done) | (simp [*]; done), by repeat (first | exact Drawn0.refl _ | apply Drawn0.step)⟩

/-! ### bytes_IndexByte: function 22, by hand -/
/-- The cells of a row of bytes. -/
theorem cells_u8 {w : World} {a : Addr} {n : Nat} {xs : List Int} (h : Kd.C (Kd.int .u8) w (some a) n xs) : ∀ i, i < n → w.cell? (a.add i) = some (.int .u8 (xs.getD i 0)) := by
 intro i hi
 obtain ⟨ad, e, hc⟩ := (Kd.reads_of_C (d := (0 : Int)) h).2.2 (by omega)
 obtain rfl := Option.some.inj e
 exact hc i hi
theorem none_u8 {w : World} {n : Nat} {xs : List Int} (h : Kd.C (Kd.int .u8) w none n xs) : xs = [] := by
 have h := Kd.reads_of_C (d := (0 : Int)) h
 rcases Nat.eq_zero_or_pos n with h0 | h0
 ·exact List.eq_nil_of_length_eq_zero (by rw [h.1, h0])
 ·obtain ⟨ad, e, _⟩ := h.2.2 h0
  cases e
def bytes_IndexByte.f (l0 : List Int) (a1 : Int) : Option Int := some (Lib.indexByte (Lib.bytesOf l0) a1.toNat.toUInt8)
theorem bytes_IndexByte.calls (A0 : Option Addr) (c0 : Nat) (l0 : List Int) (a1 : Int) (r : Int) (w : World) (hr0 : Kd.C (Kd.int .u8) w A0 l0.length l0) (hc0 : l0.length ≤ c0) (h : bytes_IndexByte.f l0 a1 = some r) :
  Calls Try.prog 22 #[.slice A0 l0.length c0, .int .u8 a1] w fun e w' => e = .returned (.int .i64 r) ∧ Drawn0 w w' := by
 obtain rfl := Option.some.inj h
 cases A0 with
 | none =>
  have h0 := none_u8 hr0
  subst h0
  go_enter Try.func22, Try.ntmps22
  go_wp2
  rw [run_callFunc_extern Try.func25 (by kernel_rfl) (by kernel_rfl) (by kernel_rfl) (e := Extern.BytealgIndexByte.indexByte) (by kernel_rfl), Lib.run_indexByteNil]
  simp only [Result.andThen]
  rw [Oper.upon_value]
  go_wp2
  go_ret
  exact ⟨rfl, Drawn0.refl _⟩
 | some a =>
  have hc := cells_u8 hr0
  clear hr0
  go_enter Try.func22, Try.ntmps22
  go_wp2
  rw [run_callFunc_extern Try.func25 (by kernel_rfl) (by kernel_rfl) (by kernel_rfl) (e := Extern.BytealgIndexByte.indexByte) (by kernel_rfl), Lib.run_indexByteAt w a l0.length c0 l0 rfl hc a1]
  simp only [Result.andThen]
  rw [Oper.upon_value]
  go_wp2
  go_ret
  exact ⟨rfl, Drawn0.refl _⟩

/-! ### bytes_Clone: function 23, by hand -/
def bytes_Clone.f (l0 : List Int) : Option (List Int) := if l0.length < 140737488355328 then some l0 else none
set_option maxHeartbeats 2000000 in
set_option maxRecDepth 100000 in
theorem bytes_Clone.calls (A0 : Option Addr) (c0 : Nat) (l0 : List Int) (r : List Int) (w : World) (hr0 : Kd.C (Kd.int .u8) w A0 l0.length l0) (hc0 : l0.length ≤ c0) (h : bytes_Clone.f l0 = some r) :
  Calls Try.prog 23 #[.slice A0 l0.length c0] w fun e w' => ∃ v0_ : Value, e = .returned (v0_) ∧ Kd.R (Kd.int .u8) 5 w' w.heap.size (fun _ => True) v0_ r ∧ Below w.heap.size w w' := by
 have hl : l0.length < 140737488355328 := by
  unfold bytes_Clone.f at h; split at h <;> first | assumption | cases h
 have hr : l0 = r := by unfold bytes_Clone.f at h; rw [if_pos hl] at h; exact Option.some.inj h
 subst hr; clear h
 have q22 : ∀ (w : World) (a : Option Addr) (n c n' c' : Nat), (binOp .eql 22 (.slice a n c) (.slice none n' c')).run Try.prog w = .ok (.bool a.isNone) w := fun w a n c n' c' => Lib.run_eql_slice_nil w _ _ a n c n' c' Try.underlying22
 cases A0 with
 | none =>
  have h0 := none_u8 hr0
  subst h0
  go_enter Try.func23, Try.ntmps23
  go_wp2
  go_ret
  exact ⟨_, rfl, Kd.R_nil _ _ _ _ _, Below.refl _ _⟩
 | some a =>
  have A : Aside0 (∀ i, i < l0.length → w.cell? (a.add i) = some (.int .u8 (l0.getD i 0))) := ⟨cells_u8 hr0⟩
  clear hr0
  have u22 : ∀ w, Sem.run Try.prog (underlying 22) w = .ok (TypeDesc.slice 5) w := run_underlying Try.underlying22
  obtain ⟨i0, hi, hz0, hz1, hz2⟩ := info_parts info5
  have z5 : ∀ w, Sem.run Try.prog (Go.sizeOf 5) w = .ok 1 w := fun w => by simp [Go.sizeOf, typeInfo, hi, hz1]
  go_enter Try.func23, Try.ntmps23
  go_wp2_with (at_builtin; refine wpList_append_own _ rfl _ _ 22 rfl w.heap.size 5 i0 (.int .u8 0) 1 1 Try.underlying22 hi hz0 hz1 hz2 rfl (by decide) _ _ _ rfl (World.ownsRow_made w #[] 0 (Nat.le_refl _) (Nat.zero_le _) rfl) a l0.length c0 (l0.map (Value.int .u8)) rfl ?qc1 ?qc2 ?qc3 ?qc4 ?qc5 ?qc6 ?_)
  case qc1 => simp
  case qc2 =>
   intro j u hj
   have hjn : j < l0.length := by
    have := (List.getElem?_eq_some_iff.1 hj).1
    simp at this
    omega
   refine Lib.cell?_alloc_some _ ?_
   rw [A.out j hjn]
   have e : (l0.map (Value.int .u8))[j]? = some (Value.int .u8 (l0.getD j 0)) := by simp [List.getD, List.getElem?_eq_getElem hjn]
   rw [e] at hj
   exact hj
  case qc3 => intro u hu; obtain ⟨x, _, rfl⟩ := List.mem_map.1 hu; rfl
  case qc4 => unfold maxLen; omega
  case qc5 => omega
  case qc6 => simp
  intro v' w1 hown hgrow hnil
  go_wp2
  go_ret
  refine ⟨v', rfl, Kd.R_of_own (enc := Value.int .u8) (h1 := fun _ => rfl) (by simpa [encs] using hown) (fun _ _ => trivial), ?_⟩
  exact ((Below.refl _ w).alloc (Nat.le_refl _) _).grown hgrow (by simp) (by intro k hk; simp [Value.ownBlock] at hk; omega)

/-! ### tok_Cut: function 10 -/
def tok_Cut.l0 : Nat → Int → List Int → List (List Int) → Option ((List (List Int)) × Int)
 | 0, _, _, _ => none
 | k + 1, x0, x1, x6 => if (x1.length : Int) > 0 then (if x0 = 1 then ((bytes_IndexByte.f x1 10).bind fun t102 => (if (wrap64 (t102 + 1)) = 0 then (if 0 ≤ (x1.length : Int) then (if (x1.length : Int) ≤ (x1.length : Int) then ((bytes_Clone.f (x1.take ((x1.length : Int) : Int).toNat)).bind fun t108 => (if x6.length < 5864062014805 then (tok_Cut.l0 k x0 (x1.drop ((x1.length : Int) : Int).toNat) (x6 ++ [t108])) else (none))) else (none)) else (none)) else (if 0 ≤ (wrap64 (t102 + 1)) then (if (wrap64 (t102 + 1)) ≤ (x1.length : Int) then ((bytes_Clone.f (x1.take ((wrap64 (t102 + 1)) : Int).toNat)).bind fun t124 => (if x6.length < 5864062014805 then (tok_Cut.l0 k x0 (x1.drop ((wrap64 (t102 + 1)) : Int).toNat) (x6 ++ [t124])) else (none))) else (none)) else (none)))) else (if 1 ≤ (x1.length : Int) then ((bytes_Clone.f (x1.take 1)).bind fun t140 => (if x6.length < 5864062014805 then (tok_Cut.l0 k x0 (x1.drop 1) (x6 ++ [t140])) else (none))) else (none))) else (some (x6, 0))
def tok_Cut.f (k : Nat) (a0 : Int) (l1 : List Int) : Option ((List (List Int)) × Int) := (tok_isMode.f a0).bind fun t101 => (if t101 = true then (tok_Cut.l0 k a0 l1 ([] : List (List Int))) else (some (([] : List (List Int)), 1)))
theorem tok_Cut.mono_l : ∀ k, (∀ y0 y1 y2, LeO (tok_Cut.l0 k y0 y1 y2) (tok_Cut.l0 (k + 1) y0 y1 y2))
 | 0 => fun _ _ _ r h => by simp [tok_Cut.l0] at h
 | k + 1 => by
  have ih0 := tok_Cut.mono_l k
  ·intro y0 y1 y2
   unfold tok_Cut.l0
   repeat' first
   | (with_reducible exact ih0 _ _ _)
   | (with_reducible exact LeO.refl _)
   | (with_reducible exact LeO.none _)
   | (with_reducible refine LeO.ite ?_ ?_)
   | (with_reducible refine LeO.bind ?_ (fun _ => ?_))
   | exact ih0 _ _ _
   | exact LeO.none _
   | refine LeO.ite ?_ ?_
   | refine LeO.bind ?_ (fun _ => ?_)
theorem tok_Cut.mono : ∀ a0 a1 k, LeO (tok_Cut.f k a0 a1) (tok_Cut.f (k + 1) a0 a1) := by
 intro a0 a1 k
 have ih0 := tok_Cut.mono_l k
 unfold tok_Cut.f
 repeat' first
   | (with_reducible exact ih0 _ _ _)
   | (with_reducible exact LeO.refl _)
   | (with_reducible exact LeO.none _)
   | (with_reducible refine LeO.ite ?_ ?_)
   | (with_reducible refine LeO.bind ?_ (fun _ => ?_))
   | exact ih0 _ _ _
   | exact LeO.none _
   | refine LeO.ite ?_ ?_
   | refine LeO.bind ?_ (fun _ => ?_)
set_option maxHeartbeats 8000000 in
set_option maxRecDepth 100000 in
theorem tok_Cut.calls (k : Nat) (a0 : Int) (P1_ : Nat → Prop) (A1 : Option Addr) (c1 : Nat) (l1 : List Int) (r1 : List (List Int)) (r2 : Int) (w : World) (hs1 : Kd.V (Kd.int .u8) 5 w w.heap.size (fun k_ => P1_ k_) (.slice A1 l1.length c1) l1) (h : tok_Cut.f k a0 l1 = some (r1, r2)) :
  Calls Try.prog 10 #[.int .i64 a0, .slice A1 l1.length c1] w fun e w' => ∃ v0_ : Value, e = .returned (.tuple #[v0_, .int .i64 r2]) ∧ Kd.S (Kd.slice 5 (Kd.int .u8)) 22 w' w.heap.size (fun k_ => (w.heap.size ≤ k_)) v0_ r1 ∧ Below w.heap.size w w' := by
 have HO1 := Aside0.mk (show Kd.V (Kd.int .u8) 5 w w.heap.size (fun k_ => (P1_ k_ ∨ w.heap.size ≤ k_)) (.slice A1 l1.length c1) l1 from Kd.V_mono hs1 (fun k_ hk => .inl hk))
 have HB := Aside0.mk (Below.refl w.heap.size w)
 have H : ((tok_isMode.f a0).bind fun t101 => (if t101 = true then (tok_Cut.l0 k a0 l1 ([] : List (List Int))) else (some (([] : List (List Int)), 1)))) = some (r1, r2) := h
 clear h
 replace H := Option.bind_eq_some_iff.mp H
 obtain ⟨t101, A30, H⟩ := H
 replace H : (if t101 = true then (tok_Cut.l0 k a0 l1 ([] : List (List Int))) else (some (([] : List (List Int)), 1))) = some (r1, r2) := H
 have A3 := Aside0.mk A30
 clear A30
 by_cases c4 : t101 = true
 ·subst c4
  have H1 : (tok_Cut.l0 k a0 l1 ([] : List (List Int))) = some (r1, r2) := by rw [if_pos rfl] at H; exact H
  clear H
  have H := H1
  clear H1
  have H' := Aside0.mk H
  clear H
  go_enter Try.func10, Try.ntmps10
  go_wp2_with (first | ((first | (with_reducible refine gate_callee (f := 21) rfl ?_); refine goesL_ (some 9) rfl rfl Try.func21 (by kernel_rfl) rfl #[.int .i64 a0] rfl (by (try simp only [List.map_toArray, List.map_cons, List.map_nil]); first | done | rfl | (simp only [List.length_drop, List.length_take]; rfl)) ?_ | go_at_call 21); (with_reducible refine (tok_isMode.calls a0 true _ A3.out).mono ?_); rintro e w' ⟨rfl, ⟨nd, rfl⟩⟩; (try refine ⟨_, rfl, ?_⟩)))
  go_loopg [1, 6] k (fun kq v1 v6 w' => ∃ (x1_1 : List Int) (x6_1 : List (List Int)), Aside0 (tok_Cut.l0 kq a0 x1_1 x6_1 = some (r1, r2)) ∧ Aside0 (kq ≤ k) ∧ Aside0 (Kd.V (Kd.int .u8) 5 w' w.heap.size (fun k_ => (P1_ k_ ∨ w.heap.size ≤ k_) ∧ some k_ ≠ (v6 : Value).ownBlock) v1 x1_1) ∧ Aside0 (Kd.S (Kd.slice 5 (Kd.int .u8)) 22 w' w.heap.size (fun k_ => (w.heap.size ≤ k_)) v6 x6_1) ∧ Aside0 (Below w.heap.size w w'))
  case atStart => exact ⟨(l1), (([] : List (List Int))), H', ⟨Nat.le_refl _⟩, ⟨by (with_reducible repeat (first | apply Kd.V_alloc | apply Kd.V_drewN | apply Kd.V_drew)); exact Kd.V_mono HO1.out (fun _ hk => ⟨hk, (by simp [Value.ownBlock])⟩)⟩, ⟨by first | exact Kd.S_nil _ _ _ _ _ | exact Kd.N_nil _ _ _ _ _ | exact Kd.V_nil _ _ _ _ _ | exact Kd.Q_nil _ _ _ _ _ | exact Kd.R_nil _ _ _ _ _⟩, ⟨by repeat (first | (with_reducible first | exact HB.out | apply below_alloc | apply pw_below_drewN | apply below_drew1) | exact HB.out)⟩⟩
  case round =>
   clear H'
   try clear c1
   try clear c2
   try clear p2
   try clear c4
   obtain ⟨x1_1, x6_1, HA, HK1, HO_1, HO_6, HB⟩ := hrel
   cases gk with
   | zero => exact absurd HA.out (by simp [tok_Cut.l0])
   | succ k1 =>
    have H := HA.out
    clear HA
    simp only [tok_Cut.l0] at H
    by_cases c5 : (x1_1.length : Int) > 0
    ·rw [if_pos c5] at H
     have c5b0 : decide (0 < (x1_1.length : Int)) = true := decide_eq_true c5
     have c5b1 : decide (0 < x1_1.length) = true := decide_eq_true (by omega)
     clear c5
     by_cases c6 : a0 = 1
     ·rw [if_pos c6] at H
      have c6b0 : (a0 == 1) = true := beq_iff_eq.mpr c6
      have c6b1 : (a0 != 1) = false := bne_eq_false_iff_eq.mpr c6
      clear c6
      replace H := Option.bind_eq_some_iff.mp H
      obtain ⟨t102, A70, H⟩ := H
      replace H : (if (wrap64 (t102 + 1)) = 0 then (if 0 ≤ (x1_1.length : Int) then (if (x1_1.length : Int) ≤ (x1_1.length : Int) then ((bytes_Clone.f (x1_1.take ((x1_1.length : Int) : Int).toNat)).bind fun t108 => (if x6_1.length < 5864062014805 then (tok_Cut.l0 k1 a0 (x1_1.drop ((x1_1.length : Int) : Int).toNat) (x6_1 ++ [t108])) else (none))) else (none)) else (none)) else (if 0 ≤ (wrap64 (t102 + 1)) then (if (wrap64 (t102 + 1)) ≤ (x1_1.length : Int) then ((bytes_Clone.f (x1_1.take ((wrap64 (t102 + 1)) : Int).toNat)).bind fun t124 => (if x6_1.length < 5864062014805 then (tok_Cut.l0 k1 a0 (x1_1.drop ((wrap64 (t102 + 1)) : Int).toNat) (x6_1 ++ [t124])) else (none))) else (none)) else (none))) = some (r1, r2) := H
      have A7 := Aside0.mk A70
      clear A70
      by_cases c8 : (wrap64 (t102 + 1)) = 0
      ·rw [if_pos c8] at H
       have c8b0 : ((wrap64 (t102 + 1)) == 0) = true := beq_iff_eq.mpr c8
       have c8b1 : ((wrap64 (t102 + 1)) != 0) = false := bne_eq_false_iff_eq.mpr c8
       clear c8
       by_cases c9 : 0 ≤ (x1_1.length : Int)
       ·rw [if_pos c9] at H
        have c9b0 := eq_true c9
        have c9b1 : decide (0 ≤ (x1_1.length : Int)) = true := decide_eq_true c9
        clear c9
        by_cases c10 : (x1_1.length : Int) ≤ (x1_1.length : Int)
        ·rw [if_pos c10] at H
         have c10b0 := eq_true c10
         have c10b1 : decide ((x1_1.length : Int) ≤ (x1_1.length : Int)) = true := decide_eq_true c10
         clear c10
         obtain ⟨y103, hy103⟩ : ∃ y_ : List Int, y_ = (x1_1.take ((x1_1.length : Int) : Int).toNat) := ⟨_, rfl⟩
         replace H : ((bytes_Clone.f y103).bind fun t108 => (if x6_1.length < 5864062014805 then (tok_Cut.l0 k1 a0 (x1_1.drop ((x1_1.length : Int) : Int).toNat) (x6_1 ++ [t108])) else (none))) = some (r1, r2) := by first | (rw [hy103]; with_reducible exact H) | (have H2_ := (Option.bind_some _ _).symm.trans H; rw [hy103]; with_reducible exact H2_) | (have H2_ := (Option.bind_some _ _).symm.trans H; with_reducible exact H2_) | with_reducible exact H | (rw [hy103]; exact H) | exact H
         have Ny103 := Aside0.mk hy103
         clear hy103
         replace H := Option.bind_eq_some_iff.mp H
         obtain ⟨t108, A110, H⟩ := H
         replace H : (if x6_1.length < 5864062014805 then (tok_Cut.l0 k1 a0 (x1_1.drop ((x1_1.length : Int) : Int).toNat) (x6_1 ++ [t108])) else (none)) = some (r1, r2) := H
         have A11 := Aside0.mk A110
         clear A110
         by_cases c12 : x6_1.length < 5864062014805
         ·rw [if_pos c12] at H
          have LMc12 := Aside0.mk c12
          clear c12
          obtain ⟨y111, hy111⟩ : ∃ y_ : List (List Int), y_ = (x6_1 ++ [t108]) := ⟨_, rfl⟩
          replace H : (tok_Cut.l0 k1 a0 (x1_1.drop ((x1_1.length : Int) : Int).toNat) y111) = some (r1, r2) := by first | (rw [hy111]; with_reducible exact H) | (have H2_ := (Option.bind_some _ _).symm.trans H; rw [hy111]; with_reducible exact H2_) | (have H2_ := (Option.bind_some _ _).symm.trans H; with_reducible exact H2_) | with_reducible exact H | (rw [hy111]; exact H) | exact H
          have Ny111 := Aside0.mk hy111
          clear hy111
          have c13b0 := eq_true (of_decide_eq_true (by first | (with_reducible assumption) | assumption) : 0 ≤ (x1_1.length : Int))
          have c14b0 := eq_true (of_decide_eq_true (by first | (with_reducible assumption) | assumption) : (x1_1.length : Int) ≤ (x1_1.length : Int))
          obtain ⟨y114, hy114⟩ : ∃ y_ : List Int, y_ = (x1_1.drop ((x1_1.length : Int) : Int).toNat) := ⟨_, rfl⟩
          replace H : (tok_Cut.l0 k1 a0 y114 y111) = some (r1, r2) := by first | (rw [hy114]; with_reducible exact H) | (have H2_ := (Option.bind_some _ _).symm.trans H; rw [hy114]; with_reducible exact H2_) | (have H2_ := (Option.bind_some _ _).symm.trans H; with_reducible exact H2_) | with_reducible exact H | (rw [hy114]; exact H) | exact H
          have Ny114 := Aside0.mk hy114
          clear hy114
          have H' := Aside0.mk H
          clear H
          obtain ⟨Ao15, co15, eo15⟩ := Kd.V_slice HO_1.out
          subst eo15
          go_wp2_with (first | ((first | (with_reducible refine gate_callee (f := 22) rfl ?_); refine goesL_ (some 17) rfl rfl Try.func22 (by kernel_rfl) rfl #[.slice Ao15 x1_1.length co15, .int .u8 10] rfl (by (try simp only [List.map_toArray, List.map_cons, List.map_nil]); first | done | rfl | (simp only [List.length_drop, List.length_take]; rfl)) ?_ | go_at_call 22); (with_reducible refine (bytes_IndexByte.calls _ _ x1_1 10 t102 _ ?side1 ?side2 A7.out).mono ?_); (case side1 => repeat (first | exact (Kd.V_reads' HO_1.out).2.2 | (with_reducible refine Kd.C_alloc ?_ _) | (with_reducible refine Kd.C_drewN ?_ _) | (with_reducible refine Kd.C_drew ?_))); (case side2 => exact (Kd.V_reads' HO_1.out).2.1); rintro e w' ⟨rfl, ⟨nd, rfl⟩⟩; (try refine ⟨_, rfl, ?_⟩); have q16 : ((x1_1.length : Int) : Int) ≤ ((x1_1.length : Int) : Int) := of_decide_eq_true (by first | (with_reducible assumption) | assumption); obtain ⟨i016, hi016, _, hsz16, _⟩ := info_parts info5; have hroom16 : x1_1.length ≤ co15 := (Kd.V_reads' HO_1.out).2.1; have hC16 : Kd.F (Kd.int .u8) _ _ Ao15 x1_1.length x1_1 := (Kd.V_at (base := w.heap.size) HO_1.out).2.2; have hcut16 := cut_to (P := Try.prog) 22 5 .i64 Try.underlying22 hi016 Ao15 x1_1.length co15 (x1_1.length : Int) (of_decide_eq_true (by first | (with_reducible assumption) | assumption)) q16 hroom16; have hr16 := Kd.F_take (m := ((x1_1.length : Int) : Int).toNat) hC16 (by omega); have hy16 : y103.length = ((x1_1.length : Int) : Int).toNat := (by rw [Ny103.out, List.length_take]; omega); rw [← Ny103.out] at hr16; rw [← hy16] at hcut16; have HO107 := Aside0.mk (show Kd.V (Kd.int .u8) 5 _ w.heap.size _ (.slice Ao15 y103.length co15) y103 from Kd.V_mk (by omega) hr16); have HC107 := Aside0.mk (show y103.length ≤ co15 from by omega); (try clear hr16); (try clear hC16); (try clear hroom16); (try clear hi016); (try clear hsz16); have KY16 := Aside0.mk hy16; clear hy16; replace q16 := eq_true q16) | ((first | (with_reducible refine gate_callee (f := 23) rfl ?_); refine goesL_ (some 27) rfl rfl Try.func23 (by kernel_rfl) rfl #[.slice Ao15 y103.length co15] rfl (by (try simp only [List.map_toArray, List.map_cons, List.map_nil]); first | done | rfl | (simp only [List.length_drop, List.length_take]; rfl)) ?_ | go_at_call 23); (with_reducible refine (bytes_Clone.calls _ _ y103 t108 _ ?side1 ?side2 A11.out).mono ?_); (case side1 => repeat (first | exact (Kd.V_reads' HO107.out).2.2 | (with_reducible refine Kd.C_alloc ?_ _) | (with_reducible refine Kd.C_drewN ?_ _) | (with_reducible refine Kd.C_drew ?_))); (case side2 => exact (Kd.V_reads' HO107.out).2.1); rintro e w17 ⟨v109, rfl, ho0, hb⟩; (try refine ⟨_, rfl, ?_⟩); have n0_ := Aside0.mk (Kd.V_elder' (by (with_reducible repeat (first | apply Kd.V_alloc | apply Kd.V_drewN | apply Kd.V_drew)); exact HO_1.out) (Kd.R_base ho0) hb); have n1_ := Aside0.mk (Kd.S_elder' (by (with_reducible repeat (first | apply Kd.S_alloc | apply Kd.S_drewN | apply Kd.S_drew)); exact HO_6.out) (Kd.R_base ho0) hb); have n2_ := Aside0.mk (Kd.V_elder' (by (with_reducible repeat (first | apply Kd.V_alloc | apply Kd.V_drewN | apply Kd.V_drew)); exact HO107.out) (Kd.R_base ho0) hb); have n3_ := Aside0.mk (Kd.R_lower (Kd.R_newM (M := fun k_ => (w.heap.size ≤ k_)) ho0 (below_size (by repeat (first | (with_reducible first | exact HB.out | apply below_alloc | apply pw_below_drewN | apply below_drew1) | exact HB.out))) (fun k_ h_ => h_)) (below_size (by repeat (first | (with_reducible first | exact HB.out | apply below_alloc | apply pw_below_drewN | apply below_drew1) | exact HB.out)))); have n4_ := Aside0.mk (below_step (by repeat (first | (with_reducible first | exact HB.out | apply below_alloc | apply pw_below_drewN | apply below_drew1) | exact HB.out)) hb); clear HO_1; clear HO_6; clear HO107; clear HB; have HO_1 := n0_; have HO_6 := n1_; have HO107 := n2_; have HO110 := n3_; have HB := n4_; clear n0_ n1_ n2_ n3_ n4_; (try clear hb); (try clear hb2); (try clear hk); (try clear hi); (try clear ho0); obtain ⟨Ao19, co19, eo19⟩ := Kd.R_slice HO110.out; subst eo19) | ((with_reducible refine gate_builtin (b := .append) (xs := #[.tmp 23, .tmp 28]) rfl ?_); at_builtin; refine Kd.S_append (Kd.slice 5 (Kd.int .u8)) (w0 := w) w.heap.size rfl (.tmp 23) (.tmp 28) 24 22 (.slice none 0 0) 24 rfl Try.underlying24 info22 rfl (by decide) (by omega) u6 x6_1 t108 [.slice Ao19 t108.length co19] (fun k_ => (w.heap.size ≤ k_)) (fun k_ => some k_ = (.slice Ao19 t108.length co19 : Value).ownBlock) rfl rfl ?aP (fun k_ hk_ => ((Kd.R_mono (ok' := fun k_ => ((fun k_ => (w.heap.size ≤ k_))) k_ ∧ some k_ ≠ (u6 : Value).ownBlock) (Kd.R_apart' (HO110.out) (Kd.S_typed HO_6.out) (by decide)) (fun k_ hk => ⟨hk.1.1, hk.2⟩))).1 k_ hk_.symm) ?aF ?aO ?aB ?aS ?aL ?_; (case aP => exact Kd.M_row (Kd.R_mono (Kd.R_tight rfl (Kd.R_mono (ok' := fun k_ => ((fun k_ => (w.heap.size ≤ k_))) k_ ∧ some k_ ≠ (u6 : Value).ownBlock) (Kd.R_apart' (HO110.out) (Kd.S_typed HO_6.out) (by decide)) (fun k_ hk => ⟨hk.1.1, hk.2⟩))) (fun _ h_ => h_))); (case aB => exact (by repeat (first | (with_reducible first | exact HB.out | apply below_alloc | apply pw_below_drewN | apply below_drew1) | exact HB.out))); (case aF => exact (fun k_ hk => (Nat.le_trans (below_size (by repeat (first | (with_reducible first | exact HB.out | apply below_alloc | apply pw_below_drewN | apply below_drew1) | exact HB.out))) hk))); (case aO => exact (by (with_reducible repeat (first | apply Kd.S_alloc | apply Kd.S_drewN | apply Kd.S_drew)); exact Kd.S_mono HO_6.out (fun k_ hk => ⟨hk.1, fun e_ => hk.2 e_⟩))); (case aS => exact (below_size (by repeat (first | (with_reducible first | exact HB.out | apply below_alloc | apply pw_below_drewN | apply below_drew1) | exact HB.out)))); (case aL => have := LMc12.out; omega); intro v112 w18 ho hb hg hat; rw [← Ny111.out] at ho; have n0_ := Aside0.mk (Kd.V_afterv (ok := (fun k_ => (P1_ k_ ∨ w.heap.size ≤ k_) ∧ some k_ ≠ (.slice Ao19 t108.length co19 : Value).ownBlock)) (by (with_reducible repeat (first | apply Kd.V_alloc | apply Kd.V_drewN | apply Kd.V_drew)); exact Kd.V_mono HO_1.out (fun _ hk => ⟨⟨hk.1.1, hk.2⟩, hk.1.2⟩)) hg hat); have n1_ := Aside0.mk (Kd.V_afterv (ok := (fun k_ => (P1_ k_ ∨ w.heap.size ≤ k_) ∧ some k_ ≠ (.slice Ao19 t108.length co19 : Value).ownBlock)) (by (with_reducible repeat (first | apply Kd.V_alloc | apply Kd.V_drewN | apply Kd.V_drew)); exact Kd.V_mono HO107.out (fun _ hk => ⟨⟨hk.1.1, hk.2⟩, hk.1.2⟩)) hg hat); have n2_ := Aside0.mk (hb); have n3_ := Aside0.mk (ho); clear HO_1; clear HO107; clear HB; clear HO_6; clear HO110; have HO_1 := n0_; have HO107 := n1_; have HB := n2_; have HO113 := n3_; clear n0_ n1_ n2_ n3_; (try clear ho); (try clear hb); (try clear hg); (try clear hat); have q20 : ((x1_1.length : Int) : Int) ≤ ((x1_1.length : Int) : Int) := of_decide_eq_true (by first | (with_reducible assumption) | assumption); obtain ⟨i020, hi020, _, hsz20, _⟩ := info_parts info5; have hroom20 : x1_1.length ≤ co15 := (Kd.V_reads' HO_1.out).2.1; have hC20 : Kd.F (Kd.int .u8) _ _ Ao15 x1_1.length x1_1 := (Kd.V_at (base := w.heap.size) HO_1.out).2.2; have q020 : (0 : Int) ≤ ((x1_1.length : Int) : Int) := of_decide_eq_true (by first | (with_reducible assumption) | assumption); have hcut20 := cut_from (P := Try.prog) 22 5 .i64 Try.underlying22 hi020 1 hsz20 Ao15 x1_1.length co15 (x1_1.length : Int) q020 q20; have hr20 := Kd.F_cut (m := ((x1_1.length : Int) : Int).toNat) (c := co15) hC20 (by omega) hroom20; obtain ⟨A20, hA20⟩ : ∃ z_, z_ = (if co15 = ((x1_1.length : Int) : Int).toNat then Ao15 else (Ao15 : Option Addr).map (·.add (((x1_1.length : Int) : Int).toNat * 1))) := ⟨_, rfl⟩; obtain ⟨c20, hc20⟩ : ∃ z_, z_ = co15 - ((x1_1.length : Int) : Int).toNat := ⟨_, rfl⟩; have hy20 : y114.length = x1_1.length - ((x1_1.length : Int) : Int).toNat := (by rw [Ny114.out, List.length_drop] <;> omega); rw [show (x1_1).drop ((x1_1.length : Int) : Int).toNat = y114 from Ny114.out.symm] at hr20; replace hr20 : Kd.F (Kd.int .u8) _ _ A20 y114.length y114 := (by rw [hA20]; exact hr20); rw [← hy20, ← hA20, ← hc20] at hcut20; have HO118 := Aside0.mk (show Kd.V (Kd.int .u8) 5 _ w.heap.size _ (.slice A20 y114.length c20) y114 from Kd.V_mk (by rw [hy20, hc20]; exact Nat.sub_le_sub_right hroom20 _) hr20); have HC118 := Aside0.mk (show y114.length ≤ c20 from by rw [hy20, hc20]; exact Nat.sub_le_sub_right hroom20 _); (try clear hr20); (try clear hC20); (try clear hroom20); (try clear hi020); (try clear hsz20); (try clear hc20); have KY20 := Aside0.mk hy20; have KA20 := Aside0.mk hA20; (try clear hy20); (try clear hA20); replace q20 := eq_true q20))
          go_roundg k1
          case measure => have := HK1.out; omega
          case rel => exact ⟨(y114), (y111), H', ⟨by have := HK1.out; omega⟩, ⟨by (with_reducible repeat (first | apply Kd.V_alloc | apply Kd.V_drewN | apply Kd.V_drew)); exact Kd.V_mono HO118.out (fun _ hk => ⟨hk.1.1, hk.2⟩)⟩, ⟨by (with_reducible repeat (first | apply Kd.S_alloc | apply Kd.S_drewN | apply Kd.S_drew)); exact HO113.out⟩, ⟨by repeat (first | (with_reducible first | exact HB.out | apply below_alloc | apply pw_below_drewN | apply below_drew1) | exact HB.out)⟩⟩
         ·rw [if_neg c12] at H
          exact absurd H (by simp)
        ·rw [if_neg c10] at H
         exact absurd H (by simp)
       ·rw [if_neg c9] at H
        exact absurd H (by simp)
      ·rw [if_neg c8] at H
       have c8b0 : ((wrap64 (t102 + 1)) == 0) = false := beq_eq_false_iff_ne.mpr c8
       have c8b1 : ((wrap64 (t102 + 1)) != 0) = true := bne_iff_ne.mpr c8
       obtain ⟨ji21, hji21⟩ : ∃ j_ : Int, (wrap64 (t102 + 1)) = j_ := ⟨_, rfl⟩
       replace H : (if 0 ≤ (ji21) then (if (ji21) ≤ (x1_1.length : Int) then ((bytes_Clone.f (x1_1.take ((ji21) : Int).toNat)).bind fun t124 => (if x6_1.length < 5864062014805 then (tok_Cut.l0 k1 a0 (x1_1.drop ((ji21) : Int).toNat) (x6_1 ++ [t124])) else (none))) else (none)) else (none)) = some (r1, r2) := by first | (rw [hji21] at H; exact H) | (simp only [hji21] at H ⊢; exact H)
       (try rw [hji21] at c8b0)
       (try rw [hji21] at c8b1)
       (try rw [hji21] at A7)
       have hji21w : (IntKind.i64.wrap (t102 + 1)) = ji21 := (i64_w _).trans hji21
       by_cases c22 : 0 ≤ (ji21)
       ·rw [if_pos c22] at H
        have c22b0 := eq_true c22
        have c22b1 : decide (0 ≤ (ji21)) = true := decide_eq_true c22
        clear c22
        by_cases c23 : (ji21) ≤ (x1_1.length : Int)
        ·rw [if_pos c23] at H
         have c23b0 := eq_true c23
         have c23b1 : decide ((ji21) ≤ (x1_1.length : Int)) = true := decide_eq_true c23
         clear c23
         obtain ⟨y119, hy119⟩ : ∃ y_ : List Int, y_ = (x1_1.take ((ji21) : Int).toNat) := ⟨_, rfl⟩
         replace H : ((bytes_Clone.f y119).bind fun t124 => (if x6_1.length < 5864062014805 then (tok_Cut.l0 k1 a0 (x1_1.drop ((ji21) : Int).toNat) (x6_1 ++ [t124])) else (none))) = some (r1, r2) := by first | (rw [hy119]; with_reducible exact H) | (have H2_ := (Option.bind_some _ _).symm.trans H; rw [hy119]; with_reducible exact H2_) | (have H2_ := (Option.bind_some _ _).symm.trans H; with_reducible exact H2_) | with_reducible exact H | (rw [hy119]; exact H) | exact H
         have Ny119 := Aside0.mk hy119
         clear hy119
         replace H := Option.bind_eq_some_iff.mp H
         obtain ⟨t124, A240, H⟩ := H
         replace H : (if x6_1.length < 5864062014805 then (tok_Cut.l0 k1 a0 (x1_1.drop ((ji21) : Int).toNat) (x6_1 ++ [t124])) else (none)) = some (r1, r2) := H
         have A24 := Aside0.mk A240
         clear A240
         by_cases c25 : x6_1.length < 5864062014805
         ·rw [if_pos c25] at H
          have LMc25 := Aside0.mk c25
          clear c25
          obtain ⟨y127, hy127⟩ : ∃ y_ : List (List Int), y_ = (x6_1 ++ [t124]) := ⟨_, rfl⟩
          replace H : (tok_Cut.l0 k1 a0 (x1_1.drop ((ji21) : Int).toNat) y127) = some (r1, r2) := by first | (rw [hy127]; with_reducible exact H) | (have H2_ := (Option.bind_some _ _).symm.trans H; rw [hy127]; with_reducible exact H2_) | (have H2_ := (Option.bind_some _ _).symm.trans H; with_reducible exact H2_) | with_reducible exact H | (rw [hy127]; exact H) | exact H
          have Ny127 := Aside0.mk hy127
          clear hy127
          have c26b0 := eq_true (of_decide_eq_true (by first | (with_reducible assumption) | assumption) : 0 ≤ (ji21))
          have c27b0 := eq_true (of_decide_eq_true (by first | (with_reducible assumption) | assumption) : (ji21) ≤ (x1_1.length : Int))
          obtain ⟨y130, hy130⟩ : ∃ y_ : List Int, y_ = (x1_1.drop ((ji21) : Int).toNat) := ⟨_, rfl⟩
          replace H : (tok_Cut.l0 k1 a0 y130 y127) = some (r1, r2) := by first | (rw [hy130]; with_reducible exact H) | (have H2_ := (Option.bind_some _ _).symm.trans H; rw [hy130]; with_reducible exact H2_) | (have H2_ := (Option.bind_some _ _).symm.trans H; with_reducible exact H2_) | with_reducible exact H | (rw [hy130]; exact H) | exact H
          have Ny130 := Aside0.mk hy130
          clear hy130
          have H' := Aside0.mk H
          clear H
          obtain ⟨Ao28, co28, eo28⟩ := Kd.V_slice HO_1.out
          subst eo28
          go_wp2_with (first | ((first | (with_reducible refine gate_callee (f := 22) rfl ?_); refine goesL_ (some 17) rfl rfl Try.func22 (by kernel_rfl) rfl #[.slice Ao28 x1_1.length co28, .int .u8 10] rfl (by (try simp only [List.map_toArray, List.map_cons, List.map_nil]); first | done | rfl | (simp only [List.length_drop, List.length_take]; rfl)) ?_ | go_at_call 22); (with_reducible refine (bytes_IndexByte.calls _ _ x1_1 10 t102 _ ?side1 ?side2 A7.out).mono ?_); (case side1 => repeat (first | exact (Kd.V_reads' HO_1.out).2.2 | (with_reducible refine Kd.C_alloc ?_ _) | (with_reducible refine Kd.C_drewN ?_ _) | (with_reducible refine Kd.C_drew ?_))); (case side2 => exact (Kd.V_reads' HO_1.out).2.1); rintro e w' ⟨rfl, ⟨nd, rfl⟩⟩; (try refine ⟨_, rfl, ?_⟩); have q29 : ((ji21) : Int) ≤ ((x1_1.length : Int) : Int) := of_decide_eq_true (by first | (with_reducible assumption) | assumption); obtain ⟨i029, hi029, _, hsz29, _⟩ := info_parts info5; have hroom29 : x1_1.length ≤ co28 := (Kd.V_reads' HO_1.out).2.1; have hC29 : Kd.F (Kd.int .u8) _ _ Ao28 x1_1.length x1_1 := (Kd.V_at (base := w.heap.size) HO_1.out).2.2; have hcut29 := cut_to (P := Try.prog) 22 5 .i64 Try.underlying22 hi029 Ao28 x1_1.length co28 (ji21) (of_decide_eq_true (by first | (with_reducible assumption) | assumption)) q29 hroom29; have hr29 := Kd.F_take (m := ((ji21) : Int).toNat) hC29 (by omega); have hy29 : y119.length = ((ji21) : Int).toNat := (by rw [Ny119.out, List.length_take]; omega); rw [← Ny119.out] at hr29; rw [← hy29] at hcut29; have HO123 := Aside0.mk (show Kd.V (Kd.int .u8) 5 _ w.heap.size _ (.slice Ao28 y119.length co28) y119 from Kd.V_mk (by omega) hr29); have HC123 := Aside0.mk (show y119.length ≤ co28 from by omega); (try clear hr29); (try clear hC29); (try clear hroom29); (try clear hi029); (try clear hsz29); have KY29 := Aside0.mk hy29; clear hy29; replace q29 := eq_true q29) | ((first | (with_reducible refine gate_callee (f := 23) rfl ?_); refine goesL_ (some 27) rfl rfl Try.func23 (by kernel_rfl) rfl #[.slice Ao28 y119.length co28] rfl (by (try simp only [List.map_toArray, List.map_cons, List.map_nil]); first | done | rfl | (simp only [List.length_drop, List.length_take]; rfl)) ?_ | go_at_call 23); (with_reducible refine (bytes_Clone.calls _ _ y119 t124 _ ?side1 ?side2 A24.out).mono ?_); (case side1 => repeat (first | exact (Kd.V_reads' HO123.out).2.2 | (with_reducible refine Kd.C_alloc ?_ _) | (with_reducible refine Kd.C_drewN ?_ _) | (with_reducible refine Kd.C_drew ?_))); (case side2 => exact (Kd.V_reads' HO123.out).2.1); rintro e w30 ⟨v125, rfl, ho0, hb⟩; (try refine ⟨_, rfl, ?_⟩); have n0_ := Aside0.mk (Kd.V_elder' (by (with_reducible repeat (first | apply Kd.V_alloc | apply Kd.V_drewN | apply Kd.V_drew)); exact HO_1.out) (Kd.R_base ho0) hb); have n1_ := Aside0.mk (Kd.S_elder' (by (with_reducible repeat (first | apply Kd.S_alloc | apply Kd.S_drewN | apply Kd.S_drew)); exact HO_6.out) (Kd.R_base ho0) hb); have n2_ := Aside0.mk (Kd.V_elder' (by (with_reducible repeat (first | apply Kd.V_alloc | apply Kd.V_drewN | apply Kd.V_drew)); exact HO123.out) (Kd.R_base ho0) hb); have n3_ := Aside0.mk (Kd.R_lower (Kd.R_newM (M := fun k_ => (w.heap.size ≤ k_)) ho0 (below_size (by repeat (first | (with_reducible first | exact HB.out | apply below_alloc | apply pw_below_drewN | apply below_drew1) | exact HB.out))) (fun k_ h_ => h_)) (below_size (by repeat (first | (with_reducible first | exact HB.out | apply below_alloc | apply pw_below_drewN | apply below_drew1) | exact HB.out)))); have n4_ := Aside0.mk (below_step (by repeat (first | (with_reducible first | exact HB.out | apply below_alloc | apply pw_below_drewN | apply below_drew1) | exact HB.out)) hb); clear HO_1; clear HO_6; clear HO123; clear HB; have HO_1 := n0_; have HO_6 := n1_; have HO123 := n2_; have HO126 := n3_; have HB := n4_; clear n0_ n1_ n2_ n3_ n4_; (try clear hb); (try clear hb2); (try clear hk); (try clear hi); (try clear ho0); obtain ⟨Ao32, co32, eo32⟩ := Kd.R_slice HO126.out; subst eo32) | ((with_reducible refine gate_builtin (b := .append) (xs := #[.tmp 23, .tmp 28]) rfl ?_); at_builtin; refine Kd.S_append (Kd.slice 5 (Kd.int .u8)) (w0 := w) w.heap.size rfl (.tmp 23) (.tmp 28) 24 22 (.slice none 0 0) 24 rfl Try.underlying24 info22 rfl (by decide) (by omega) u6 x6_1 t124 [.slice Ao32 t124.length co32] (fun k_ => (w.heap.size ≤ k_)) (fun k_ => some k_ = (.slice Ao32 t124.length co32 : Value).ownBlock) rfl rfl ?aP (fun k_ hk_ => ((Kd.R_mono (ok' := fun k_ => ((fun k_ => (w.heap.size ≤ k_))) k_ ∧ some k_ ≠ (u6 : Value).ownBlock) (Kd.R_apart' (HO126.out) (Kd.S_typed HO_6.out) (by decide)) (fun k_ hk => ⟨hk.1.1, hk.2⟩))).1 k_ hk_.symm) ?aF ?aO ?aB ?aS ?aL ?_; (case aP => exact Kd.M_row (Kd.R_mono (Kd.R_tight rfl (Kd.R_mono (ok' := fun k_ => ((fun k_ => (w.heap.size ≤ k_))) k_ ∧ some k_ ≠ (u6 : Value).ownBlock) (Kd.R_apart' (HO126.out) (Kd.S_typed HO_6.out) (by decide)) (fun k_ hk => ⟨hk.1.1, hk.2⟩))) (fun _ h_ => h_))); (case aB => exact (by repeat (first | (with_reducible first | exact HB.out | apply below_alloc | apply pw_below_drewN | apply below_drew1) | exact HB.out))); (case aF => exact (fun k_ hk => (Nat.le_trans (below_size (by repeat (first | (with_reducible first | exact HB.out | apply below_alloc | apply pw_below_drewN | apply below_drew1) | exact HB.out))) hk))); (case aO => exact (by (with_reducible repeat (first | apply Kd.S_alloc | apply Kd.S_drewN | apply Kd.S_drew)); exact Kd.S_mono HO_6.out (fun k_ hk => ⟨hk.1, fun e_ => hk.2 e_⟩))); (case aS => exact (below_size (by repeat (first | (with_reducible first | exact HB.out | apply below_alloc | apply pw_below_drewN | apply below_drew1) | exact HB.out)))); (case aL => have := LMc25.out; omega); intro v128 w31 ho hb hg hat; rw [← Ny127.out] at ho; have n0_ := Aside0.mk (Kd.V_afterv (ok := (fun k_ => (P1_ k_ ∨ w.heap.size ≤ k_) ∧ some k_ ≠ (.slice Ao32 t124.length co32 : Value).ownBlock)) (by (with_reducible repeat (first | apply Kd.V_alloc | apply Kd.V_drewN | apply Kd.V_drew)); exact Kd.V_mono HO_1.out (fun _ hk => ⟨⟨hk.1.1, hk.2⟩, hk.1.2⟩)) hg hat); have n1_ := Aside0.mk (Kd.V_afterv (ok := (fun k_ => (P1_ k_ ∨ w.heap.size ≤ k_) ∧ some k_ ≠ (.slice Ao32 t124.length co32 : Value).ownBlock)) (by (with_reducible repeat (first | apply Kd.V_alloc | apply Kd.V_drewN | apply Kd.V_drew)); exact Kd.V_mono HO123.out (fun _ hk => ⟨⟨hk.1.1, hk.2⟩, hk.1.2⟩)) hg hat); have n2_ := Aside0.mk (hb); have n3_ := Aside0.mk (ho); clear HO_1; clear HO123; clear HB; clear HO_6; clear HO126; have HO_1 := n0_; have HO123 := n1_; have HB := n2_; have HO129 := n3_; clear n0_ n1_ n2_ n3_; (try clear ho); (try clear hb); (try clear hg); (try clear hat); have q33 : ((ji21) : Int) ≤ ((x1_1.length : Int) : Int) := of_decide_eq_true (by first | (with_reducible assumption) | assumption); obtain ⟨i033, hi033, _, hsz33, _⟩ := info_parts info5; have hroom33 : x1_1.length ≤ co28 := (Kd.V_reads' HO_1.out).2.1; have hC33 : Kd.F (Kd.int .u8) _ _ Ao28 x1_1.length x1_1 := (Kd.V_at (base := w.heap.size) HO_1.out).2.2; have q033 : (0 : Int) ≤ ((ji21) : Int) := of_decide_eq_true (by first | (with_reducible assumption) | assumption); have hcut33 := cut_from (P := Try.prog) 22 5 .i64 Try.underlying22 hi033 1 hsz33 Ao28 x1_1.length co28 (ji21) q033 q33; have hr33 := Kd.F_cut (m := ((ji21) : Int).toNat) (c := co28) hC33 (by omega) hroom33; obtain ⟨A33, hA33⟩ : ∃ z_, z_ = (if co28 = ((ji21) : Int).toNat then Ao28 else (Ao28 : Option Addr).map (·.add (((ji21) : Int).toNat * 1))) := ⟨_, rfl⟩; obtain ⟨c33, hc33⟩ : ∃ z_, z_ = co28 - ((ji21) : Int).toNat := ⟨_, rfl⟩; have hy33 : y130.length = x1_1.length - ((ji21) : Int).toNat := (by rw [Ny130.out, List.length_drop] <;> omega); rw [show (x1_1).drop ((ji21) : Int).toNat = y130 from Ny130.out.symm] at hr33; replace hr33 : Kd.F (Kd.int .u8) _ _ A33 y130.length y130 := (by rw [hA33]; exact hr33); rw [← hy33, ← hA33, ← hc33] at hcut33; have HO134 := Aside0.mk (show Kd.V (Kd.int .u8) 5 _ w.heap.size _ (.slice A33 y130.length c33) y130 from Kd.V_mk (by rw [hy33, hc33]; exact Nat.sub_le_sub_right hroom33 _) hr33); have HC134 := Aside0.mk (show y130.length ≤ c33 from by rw [hy33, hc33]; exact Nat.sub_le_sub_right hroom33 _); (try clear hr33); (try clear hC33); (try clear hroom33); (try clear hi033); (try clear hsz33); (try clear hc33); have KY33 := Aside0.mk hy33; have KA33 := Aside0.mk hA33; (try clear hy33); (try clear hA33); replace q33 := eq_true q33))
          go_roundg k1
          case measure => have := HK1.out; omega
          case rel => exact ⟨(y130), (y127), H', ⟨by have := HK1.out; omega⟩, ⟨by (with_reducible repeat (first | apply Kd.V_alloc | apply Kd.V_drewN | apply Kd.V_drew)); exact Kd.V_mono HO134.out (fun _ hk => ⟨hk.1.1, hk.2⟩)⟩, ⟨by (with_reducible repeat (first | apply Kd.S_alloc | apply Kd.S_drewN | apply Kd.S_drew)); exact HO129.out⟩, ⟨by repeat (first | (with_reducible first | exact HB.out | apply below_alloc | apply pw_below_drewN | apply below_drew1) | exact HB.out)⟩⟩
         ·rw [if_neg c25] at H
          exact absurd H (by simp)
        ·rw [if_neg c23] at H
         exact absurd H (by simp)
       ·rw [if_neg c22] at H
        exact absurd H (by simp)
     ·rw [if_neg c6] at H
      have c6b0 : (a0 == 1) = false := beq_eq_false_iff_ne.mpr c6
      have c6b1 : (a0 != 1) = true := bne_iff_ne.mpr c6
      by_cases c34 : 1 ≤ (x1_1.length : Int)
      ·rw [if_pos c34] at H
       have c34b0 := eq_true c34
       have c34b1 : decide (1 ≤ (x1_1.length : Int)) = true := decide_eq_true c34
       clear c34
       obtain ⟨y135, hy135⟩ : ∃ y_ : List Int, y_ = (x1_1.take 1) := ⟨_, rfl⟩
       replace H : ((bytes_Clone.f y135).bind fun t140 => (if x6_1.length < 5864062014805 then (tok_Cut.l0 k1 a0 (x1_1.drop 1) (x6_1 ++ [t140])) else (none))) = some (r1, r2) := by first | (rw [hy135]; with_reducible exact H) | (have H2_ := (Option.bind_some _ _).symm.trans H; rw [hy135]; with_reducible exact H2_) | (have H2_ := (Option.bind_some _ _).symm.trans H; with_reducible exact H2_) | with_reducible exact H | (rw [hy135]; exact H) | exact H
       have Ny135 := Aside0.mk hy135
       clear hy135
       replace H := Option.bind_eq_some_iff.mp H
       obtain ⟨t140, A350, H⟩ := H
       replace H : (if x6_1.length < 5864062014805 then (tok_Cut.l0 k1 a0 (x1_1.drop 1) (x6_1 ++ [t140])) else (none)) = some (r1, r2) := H
       have A35 := Aside0.mk A350
       clear A350
       by_cases c36 : x6_1.length < 5864062014805
       ·rw [if_pos c36] at H
        have LMc36 := Aside0.mk c36
        clear c36
        obtain ⟨y143, hy143⟩ : ∃ y_ : List (List Int), y_ = (x6_1 ++ [t140]) := ⟨_, rfl⟩
        replace H : (tok_Cut.l0 k1 a0 (x1_1.drop 1) y143) = some (r1, r2) := by first | (rw [hy143]; with_reducible exact H) | (have H2_ := (Option.bind_some _ _).symm.trans H; rw [hy143]; with_reducible exact H2_) | (have H2_ := (Option.bind_some _ _).symm.trans H; with_reducible exact H2_) | with_reducible exact H | (rw [hy143]; exact H) | exact H
        have Ny143 := Aside0.mk hy143
        clear hy143
        have c37b0 := eq_true (of_decide_eq_true (by first | (with_reducible assumption) | assumption) : 1 ≤ (x1_1.length : Int))
        obtain ⟨y146, hy146⟩ : ∃ y_ : List Int, y_ = (x1_1.drop 1) := ⟨_, rfl⟩
        replace H : (tok_Cut.l0 k1 a0 y146 y143) = some (r1, r2) := by first | (rw [hy146]; with_reducible exact H) | (have H2_ := (Option.bind_some _ _).symm.trans H; rw [hy146]; with_reducible exact H2_) | (have H2_ := (Option.bind_some _ _).symm.trans H; with_reducible exact H2_) | with_reducible exact H | (rw [hy146]; exact H) | exact H
        have Ny146 := Aside0.mk hy146
        clear hy146
        have H' := Aside0.mk H
        clear H
        obtain ⟨Ao38, co38, eo38⟩ := Kd.V_slice HO_1.out
        subst eo38
        have q39 : (1 : Int) ≤ ((x1_1.length : Int) : Int) := of_decide_eq_true (by first | (with_reducible assumption) | assumption)
        obtain ⟨i039, hi039, _, hsz39, _⟩ := info_parts info5
        have hroom39 : x1_1.length ≤ co38 := (Kd.V_reads' HO_1.out).2.1
        have hC39 : Kd.F (Kd.int .u8) _ _ Ao38 x1_1.length x1_1 := (Kd.V_at (base := w.heap.size) HO_1.out).2.2
        have hcut39 := cut_to (P := Try.prog) 22 5 .i64 Try.underlying22 hi039 Ao38 x1_1.length co38 1 (by omega) q39 hroom39
        have hr39 := Kd.F_take (m := 1) hC39 (by omega)
        have hy39 : y135.length = (1 : Int).toNat := (by rw [Ny135.out, List.length_take]; omega)
        rw [← Ny135.out] at hr39
        rw [← hy39] at hcut39
        have HO139 := Aside0.mk (show Kd.V (Kd.int .u8) 5 _ w.heap.size _ (.slice Ao38 y135.length co38) y135 from Kd.V_mk (by omega) hr39)
        have HC139 := Aside0.mk (show y135.length ≤ co38 from by omega)
        clear hr39 hC39 hroom39 hi039 hsz39
        have KY39 := Aside0.mk hy39
        clear hy39
        replace q39 := eq_true q39
        go_wp2_with (first | ((first | (with_reducible refine gate_callee (f := 23) rfl ?_); refine goesL_ (some 27) rfl rfl Try.func23 (by kernel_rfl) rfl #[.slice Ao38 y135.length co38] rfl (by (try simp only [List.map_toArray, List.map_cons, List.map_nil]); first | done | rfl | (simp only [List.length_drop, List.length_take]; rfl)) ?_ | go_at_call 23); (with_reducible refine (bytes_Clone.calls _ _ y135 t140 _ ?side1 ?side2 A35.out).mono ?_); (case side1 => repeat (first | exact (Kd.V_reads' HO139.out).2.2 | (with_reducible refine Kd.C_alloc ?_ _) | (with_reducible refine Kd.C_drewN ?_ _) | (with_reducible refine Kd.C_drew ?_))); (case side2 => exact (Kd.V_reads' HO139.out).2.1); rintro e w40 ⟨v141, rfl, ho0, hb⟩; (try refine ⟨_, rfl, ?_⟩); have n0_ := Aside0.mk (Kd.V_elder' (by (with_reducible repeat (first | apply Kd.V_alloc | apply Kd.V_drewN | apply Kd.V_drew)); exact HO_1.out) (Kd.R_base ho0) hb); have n1_ := Aside0.mk (Kd.S_elder' (by (with_reducible repeat (first | apply Kd.S_alloc | apply Kd.S_drewN | apply Kd.S_drew)); exact HO_6.out) (Kd.R_base ho0) hb); have n2_ := Aside0.mk (Kd.V_elder' (by (with_reducible repeat (first | apply Kd.V_alloc | apply Kd.V_drewN | apply Kd.V_drew)); exact HO139.out) (Kd.R_base ho0) hb); have n3_ := Aside0.mk (Kd.R_lower (Kd.R_newM (M := fun k_ => (w.heap.size ≤ k_)) ho0 (below_size (by repeat (first | (with_reducible first | exact HB.out | apply below_alloc | apply pw_below_drewN | apply below_drew1) | exact HB.out))) (fun k_ h_ => h_)) (below_size (by repeat (first | (with_reducible first | exact HB.out | apply below_alloc | apply pw_below_drewN | apply below_drew1) | exact HB.out)))); have n4_ := Aside0.mk (below_step (by repeat (first | (with_reducible first | exact HB.out | apply below_alloc | apply pw_below_drewN | apply below_drew1) | exact HB.out)) hb); clear HO_1; clear HO_6; clear HO139; clear HB; have HO_1 := n0_; have HO_6 := n1_; have HO139 := n2_; have HO142 := n3_; have HB := n4_; clear n0_ n1_ n2_ n3_ n4_; (try clear hb); (try clear hb2); (try clear hk); (try clear hi); (try clear ho0); obtain ⟨Ao42, co42, eo42⟩ := Kd.R_slice HO142.out; subst eo42) | ((with_reducible refine gate_builtin (b := .append) (xs := #[.tmp 23, .tmp 28]) rfl ?_); at_builtin; refine Kd.S_append (Kd.slice 5 (Kd.int .u8)) (w0 := w) w.heap.size rfl (.tmp 23) (.tmp 28) 24 22 (.slice none 0 0) 24 rfl Try.underlying24 info22 rfl (by decide) (by omega) u6 x6_1 t140 [.slice Ao42 t140.length co42] (fun k_ => (w.heap.size ≤ k_)) (fun k_ => some k_ = (.slice Ao42 t140.length co42 : Value).ownBlock) rfl rfl ?aP (fun k_ hk_ => ((Kd.R_mono (ok' := fun k_ => ((fun k_ => (w.heap.size ≤ k_))) k_ ∧ some k_ ≠ (u6 : Value).ownBlock) (Kd.R_apart' (HO142.out) (Kd.S_typed HO_6.out) (by decide)) (fun k_ hk => ⟨hk.1.1, hk.2⟩))).1 k_ hk_.symm) ?aF ?aO ?aB ?aS ?aL ?_; (case aP => exact Kd.M_row (Kd.R_mono (Kd.R_tight rfl (Kd.R_mono (ok' := fun k_ => ((fun k_ => (w.heap.size ≤ k_))) k_ ∧ some k_ ≠ (u6 : Value).ownBlock) (Kd.R_apart' (HO142.out) (Kd.S_typed HO_6.out) (by decide)) (fun k_ hk => ⟨hk.1.1, hk.2⟩))) (fun _ h_ => h_))); (case aB => exact (by repeat (first | (with_reducible first | exact HB.out | apply below_alloc | apply pw_below_drewN | apply below_drew1) | exact HB.out))); (case aF => exact (fun k_ hk => (Nat.le_trans (below_size (by repeat (first | (with_reducible first | exact HB.out | apply below_alloc | apply pw_below_drewN | apply below_drew1) | exact HB.out))) hk))); (case aO => exact (by (with_reducible repeat (first | apply Kd.S_alloc | apply Kd.S_drewN | apply Kd.S_drew)); exact Kd.S_mono HO_6.out (fun k_ hk => ⟨hk.1, fun e_ => hk.2 e_⟩))); (case aS => exact (below_size (by repeat (first | (with_reducible first | exact HB.out | apply below_alloc | apply pw_below_drewN | apply below_drew1) | exact HB.out)))); (case aL => have := LMc36.out; omega); intro v144 w41 ho hb hg hat; rw [← Ny143.out] at ho; have n0_ := Aside0.mk (Kd.V_afterv (ok := (fun k_ => (P1_ k_ ∨ w.heap.size ≤ k_) ∧ some k_ ≠ (.slice Ao42 t140.length co42 : Value).ownBlock)) (by (with_reducible repeat (first | apply Kd.V_alloc | apply Kd.V_drewN | apply Kd.V_drew)); exact Kd.V_mono HO_1.out (fun _ hk => ⟨⟨hk.1.1, hk.2⟩, hk.1.2⟩)) hg hat); have n1_ := Aside0.mk (Kd.V_afterv (ok := (fun k_ => (P1_ k_ ∨ w.heap.size ≤ k_) ∧ some k_ ≠ (.slice Ao42 t140.length co42 : Value).ownBlock)) (by (with_reducible repeat (first | apply Kd.V_alloc | apply Kd.V_drewN | apply Kd.V_drew)); exact Kd.V_mono HO139.out (fun _ hk => ⟨⟨hk.1.1, hk.2⟩, hk.1.2⟩)) hg hat); have n2_ := Aside0.mk (hb); have n3_ := Aside0.mk (ho); clear HO_1; clear HO139; clear HB; clear HO_6; clear HO142; have HO_1 := n0_; have HO139 := n1_; have HB := n2_; have HO145 := n3_; clear n0_ n1_ n2_ n3_; (try clear ho); (try clear hb); (try clear hg); (try clear hat); have q43 : (1 : Int) ≤ ((x1_1.length : Int) : Int) := of_decide_eq_true (by first | (with_reducible assumption) | assumption); obtain ⟨i043, hi043, _, hsz43, _⟩ := info_parts info5; have hroom43 : x1_1.length ≤ co38 := (Kd.V_reads' HO_1.out).2.1; have hC43 : Kd.F (Kd.int .u8) _ _ Ao38 x1_1.length x1_1 := (Kd.V_at (base := w.heap.size) HO_1.out).2.2; have hcut43 := cut_from (P := Try.prog) 22 5 .i64 Try.underlying22 hi043 1 hsz43 Ao38 x1_1.length co38 1 (by omega) q43; have hr43 := Kd.F_cut (m := (1 : Int).toNat) (c := co38) hC43 (by omega) hroom43; obtain ⟨A43, hA43⟩ : ∃ z_, z_ = (if co38 = (1 : Int).toNat then Ao38 else (Ao38 : Option Addr).map (·.add ((1 : Int).toNat * 1))) := ⟨_, rfl⟩; obtain ⟨c43, hc43⟩ : ∃ z_, z_ = co38 - (1 : Int).toNat := ⟨_, rfl⟩; have hy43 : y146.length = x1_1.length - (1 : Int).toNat := (by rw [Ny146.out, List.length_drop] <;> omega); rw [show (x1_1).drop (1 : Int).toNat = y146 from Ny146.out.symm] at hr43; replace hr43 : Kd.F (Kd.int .u8) _ _ A43 y146.length y146 := (by rw [hA43]; exact hr43); rw [← hy43, ← hA43, ← hc43] at hcut43; have HO150 := Aside0.mk (show Kd.V (Kd.int .u8) 5 _ w.heap.size _ (.slice A43 y146.length c43) y146 from Kd.V_mk (by rw [hy43, hc43]; exact Nat.sub_le_sub_right hroom43 _) hr43); have HC150 := Aside0.mk (show y146.length ≤ c43 from by rw [hy43, hc43]; exact Nat.sub_le_sub_right hroom43 _); (try clear hr43); (try clear hC43); (try clear hroom43); (try clear hi043); (try clear hsz43); (try clear hc43); have KY43 := Aside0.mk hy43; have KA43 := Aside0.mk hA43; (try clear hy43); (try clear hA43); replace q43 := eq_true q43))
        go_roundg k1
        case measure => have := HK1.out; omega
        case rel => exact ⟨(y146), (y143), H', ⟨by have := HK1.out; omega⟩, ⟨by (with_reducible repeat (first | apply Kd.V_alloc | apply Kd.V_drewN | apply Kd.V_drew)); exact Kd.V_mono HO150.out (fun _ hk => ⟨hk.1.1, hk.2⟩)⟩, ⟨by (with_reducible repeat (first | apply Kd.S_alloc | apply Kd.S_drewN | apply Kd.S_drew)); exact HO145.out⟩, ⟨by repeat (first | (with_reducible first | exact HB.out | apply below_alloc | apply pw_below_drewN | apply below_drew1) | exact HB.out)⟩⟩
       ·rw [if_neg c36] at H
        exact absurd H (by simp)
      ·rw [if_neg c34] at H
       exact absurd H (by simp)
    ·rw [if_neg c5] at H
     have c5b0 : decide (0 < (x1_1.length : Int)) = false := decide_eq_false c5
     have c5b1 : decide (0 < x1_1.length) = false := decide_eq_false (by omega)
     clear c5
     simp only [Option.some.injEq, Prod.mk.injEq] at H
     obtain ⟨rfl, rfl⟩ := H
     obtain ⟨Ao44, co44, eo44⟩ := Kd.V_slice HO_1.out
     subst eo44
     go_wp2
     go_ret2
     exact ⟨_, by first | rfl | (simp [errW_none, errW_some] <;> rfl) | (simp [*, errW_none, errW_some] <;> rfl), by (with_reducible repeat (first | apply Kd.S_alloc | apply Kd.S_drewN | apply Kd.S_drew)); exact HO_6.out, by repeat (first | (with_reducible first | exact HB.out | apply below_alloc | apply pw_below_drewN | apply below_drew1) | exact HB.out)⟩
 ·replace c4 := Bool.eq_false_iff.mpr c4
  subst c4
  have H1 : (some (([] : List (List Int)), 1)) = some (r1, r2) := by rw [if_neg (show ¬ (false = true) by decide)] at H; exact H
  clear H
  have H := H1
  clear H1
  simp only [Option.some.injEq, Prod.mk.injEq] at H
  obtain ⟨rfl, rfl⟩ := H
  go_enter Try.func10, Try.ntmps10
  go_wp2_with (first | ((first | (with_reducible refine gate_callee (f := 21) rfl ?_); refine goesL_ (some 9) rfl rfl Try.func21 (by kernel_rfl) rfl #[.int .i64 a0] rfl (by (try simp only [List.map_toArray, List.map_cons, List.map_nil]); first | done | rfl | (simp only [List.length_drop, List.length_take]; rfl)) ?_ | go_at_call 21); (with_reducible refine (tok_isMode.calls a0 false _ A3.out).mono ?_); rintro e w' ⟨rfl, ⟨nd, rfl⟩⟩; (try refine ⟨_, rfl, ?_⟩)))
  go_ret2
  exact ⟨_, by first | rfl | (simp [errW_none, errW_some] <;> rfl) | (simp [*, errW_none, errW_some] <;> rfl), by first | exact Kd.S_nil _ _ _ _ _ | exact Kd.N_nil _ _ _ _ _ | exact Kd.V_nil _ _ _ _ _ | exact Kd.Q_nil _ _ _ _ _ | exact Kd.R_nil _ _ _ _ _, by repeat (first | (with_reducible first | exact HB.out | apply below_alloc | apply pw_below_drewN | apply below_drew1) | exact HB.out)⟩

/-! ### tok_Join: function 11 -/
def tok_Join.l0 : Nat → List Int → List (List Int) → Int → Int → Option (List Int)
 | 0, _, _, _, _ => none
 | k + 1, x3, x6, x7, x8 => if x8 < x7 then (if 0 ≤ x8 then (if x8 < (x6.length : Int) then (if x3.length + (rd_L1 x6 x8).length < 140737488355328 then (tok_Join.l0 k (x3 ++ (rd_L1 x6 x8)) x6 x7 (wrap64 (x8 + 1))) else (none)) else (none)) else (none)) else (some x3)
def tok_Join.f (k : Nat) (l0 : List (List Int)) : Option (List Int) := tok_Join.l0 k ([] : List Int) l0 (l0.length : Int) 0
theorem tok_Join.mono_l : ∀ k, (∀ y0 y1 y2 y3, LeO (tok_Join.l0 k y0 y1 y2 y3) (tok_Join.l0 (k + 1) y0 y1 y2 y3))
 | 0 => fun _ _ _ _ r h => by simp [tok_Join.l0] at h
 | k + 1 => by
  have ih0 := tok_Join.mono_l k
  ·intro y0 y1 y2 y3
   unfold tok_Join.l0
   repeat' first
   | (with_reducible exact ih0 _ _ _ _)
   | (with_reducible exact LeO.refl _)
   | (with_reducible exact LeO.none _)
   | (with_reducible refine LeO.ite ?_ ?_)
   | (with_reducible refine LeO.bind ?_ (fun _ => ?_))
   | exact ih0 _ _ _ _
   | exact LeO.none _
   | refine LeO.ite ?_ ?_
   | refine LeO.bind ?_ (fun _ => ?_)
theorem tok_Join.mono : ∀ a0 k, LeO (tok_Join.f k a0) (tok_Join.f (k + 1) a0) := by
 intro a0 k
 have ih0 := tok_Join.mono_l k
 unfold tok_Join.f
 repeat' first
   | (with_reducible exact ih0 _ _ _ _)
   | (with_reducible exact LeO.refl _)
   | (with_reducible exact LeO.none _)
   | (with_reducible refine LeO.ite ?_ ?_)
   | (with_reducible refine LeO.bind ?_ (fun _ => ?_))
   | exact ih0 _ _ _ _
   | exact LeO.none _
   | refine LeO.ite ?_ ?_
   | refine LeO.bind ?_ (fun _ => ?_)
set_option maxHeartbeats 8000000 in
set_option maxRecDepth 100000 in
theorem tok_Join.calls (k : Nat) (A0 : Option Addr) (c0 : Nat) (l0 : List (List Int)) (r : List Int) (w : World) (hr0 : Kd.C (Kd.slice 5 (Kd.int .u8)) w A0 l0.length l0) (hc0 : l0.length ≤ c0) (h : tok_Join.f k l0 = some r) :
  Calls Try.prog 11 #[.slice A0 l0.length c0] w fun e w' => ∃ v0_ : Value, e = .returned (v0_) ∧ Kd.R (Kd.int .u8) 5 w' w.heap.size (fun _ => True) v0_ r ∧ Below w.heap.size w w' := by
 have HR0 := Aside0.mk hr0
 have HC0 := Aside0.mk hc0
 clear hr0 hc0
 have HB := Aside0.mk (Below.refl w.heap.size w)
 have H : (tok_Join.l0 k ([] : List Int) l0 (l0.length : Int) 0) = some r := h
 clear h
 have H' := Aside0.mk H
 clear H
 go_enter Try.func11, Try.ntmps11
 go_wp2
 go_loopg [3, 8] k (fun kq v3 v8 w' => ∃ (x3_1 : List Int) (x8_1 : Int), v8 = .int .i64 x8_1 ∧ Aside0 (tok_Join.l0 kq x3_1 l0 (l0.length : Int) x8_1 = some r) ∧ Aside0 (kq ≤ k) ∧ Aside0 (Kd.R (Kd.int .u8) 5 w' w.heap.size (fun _ => True) v3 x3_1) ∧ Aside0 (Below w.heap.size w w'))
 case atStart => exact ⟨(([] : List Int)), (0), (by first | rfl | (simp; done) | (simp [*]; done)), H', ⟨Nat.le_refl _⟩, ⟨by first | exact Kd.R_nil _ _ _ _ _ | exact Kd.N_nil _ _ _ _ _ | exact Kd.V_nil _ _ _ _ _ | exact Kd.Q_nil _ _ _ _ _ | exact Kd.S_nil _ _ _ _ _⟩, ⟨by repeat (first | (with_reducible first | exact HB.out | apply below_alloc | apply pw_below_drewN | apply below_drew1) | exact HB.out)⟩⟩
 case round =>
  clear H'
  try clear c1
  obtain ⟨x3_1, x8_1, rfl, HA, HK1, HO_3, HB⟩ := hrel
  cases gk with
  | zero => exact absurd HA.out (by simp [tok_Join.l0])
  | succ k1 =>
   have H := HA.out
   clear HA
   simp only [tok_Join.l0] at H
   by_cases c2 : x8_1 < (l0.length : Int)
   ·rw [if_pos c2] at H
    have c2b0 : decide (x8_1 < (l0.length : Int)) = true := decide_eq_true c2
    clear c2
    by_cases c3 : 0 ≤ x8_1
    ·rw [if_pos c3] at H
     have c3b0 : decide (0 ≤ x8_1) = true := decide_eq_true c3
     clear c3
     by_cases c4 : x8_1 < (l0.length : Int)
     ·rw [if_pos c4] at H
      have c4b0 : decide (x8_1 < (l0.length : Int)) = true := decide_eq_true c4
      clear c4
      by_cases c5 : x3_1.length + (rd_L1 l0 x8_1).length < 140737488355328
      ·rw [if_pos c5] at H
       have LMc5 := Aside0.mk c5
       clear c5
       obtain ⟨y152, hy152⟩ : ∃ y_ : List Int, y_ = (x3_1 ++ (rd_L1 l0 x8_1)) := ⟨_, rfl⟩
       replace H : (tok_Join.l0 k1 y152 l0 (l0.length : Int) (wrap64 (x8_1 + 1))) = some r := by first | (rw [hy152]; with_reducible exact H) | (have H2_ := (Option.bind_some _ _).symm.trans H; rw [hy152]; with_reducible exact H2_) | (have H2_ := (Option.bind_some _ _).symm.trans H; with_reducible exact H2_) | with_reducible exact H | (rw [hy152]; exact H) | exact H
       have Ny152 := Aside0.mk hy152
       clear hy152
       have H' := Aside0.mk H
       clear H
       have p151 : 0 ≤ (x8_1 : Int) := of_decide_eq_true (by first | (with_reducible assumption) | assumption)
       have q151 : x8_1 < (l0.length : Int) := of_decide_eq_true (by first | (with_reducible assumption) | assumption)
       obtain ⟨ad151, A151_0, c151_0, e151, hx151_0, hl151_0, hi151_0⟩ := at_L1 HR0.out x8_1 p151 q151
       cases e151
       replace hx151_0 := (HB.out.cell (World.block_lt_of_cell? w _ hx151_0)).trans hx151_0
       have HR151_0 := Aside0.mk hi151_0
       have HC151_0 := Aside0.mk hl151_0
       clear hi151_0 hl151_0
       replace p151 := eq_true p151
       replace q151 := eq_true q151
       go_wp2_with (first | ((with_reducible refine gate_builtin (b := .append) (xs := #[.tmp 12, .tmp 13]) rfl ?_); at_builtin; refine Kd.R_append_rows (Kd.int .u8) (w0 := w) w.heap.size rfl (.tmp 12) (.tmp 13) 22 5 (.int .u8 0) 1 rfl Try.underlying22 info5 rfl (by decide) (by omega) u3 x3_1 (rd_L1 l0 x8_1) _ _ _ (fun _ => True) (fun _ => False) rfl rfl ?aO ?aR (fun _ _ h => h) (fun _ h => h.elim) ?aF ?aB ?aS ?aL ?_; (case aR => repeat (first | exact (Kd.C_below HR151_0.out HB.out) | (with_reducible refine Kd.C_alloc ?_ _) | (with_reducible refine Kd.C_drewN ?_ _) | (with_reducible refine Kd.C_drew ?_))); (case aB => exact (by repeat (first | (with_reducible first | exact HB.out | apply below_alloc | apply pw_below_drewN | apply below_drew1) | exact HB.out))); (case aF => exact (fun _ _ => trivial)); (case aO => exact (by (with_reducible repeat (first | apply Kd.R_alloc | apply Kd.R_drewN | apply Kd.R_drew)); exact HO_3.out)); (case aS => exact (below_size (by repeat (first | (with_reducible first | exact HB.out | apply below_alloc | apply pw_below_drewN | apply below_drew1) | exact HB.out)))); (case aL => have := LMc5.out; omega); intro v153 w6 ho hb hg hat; rw [← Ny152.out] at ho; have n0_ := Aside0.mk (hb); have n1_ := Aside0.mk (ho); clear HB; clear HO_3; have HB := n0_; have HO154 := n1_; clear n0_ n1_; (try clear ho); (try clear hb); (try clear hg); (try clear hat)))
       go_roundg k1
       case measure => have := HK1.out; omega
       case rel => exact ⟨(y152), (wrap64 (x8_1 + 1)), (by first | rfl | (simp; done) | (simp [*]; done)), H', ⟨by have := HK1.out; omega⟩, ⟨by (with_reducible repeat (first | apply Kd.R_alloc | apply Kd.R_drewN | apply Kd.R_drew)); exact HO154.out⟩, ⟨by repeat (first | (with_reducible first | exact HB.out | apply below_alloc | apply pw_below_drewN | apply below_drew1) | exact HB.out)⟩⟩
      ·rw [if_neg c5] at H
       exact absurd H (by simp)
     ·rw [if_neg c4] at H
      exact absurd H (by simp)
    ·rw [if_neg c3] at H
     exact absurd H (by simp)
   ·rw [if_neg c2] at H
    have c2b0 : decide (x8_1 < (l0.length : Int)) = false := decide_eq_false c2
    clear c2
    obtain rfl := Option.some.inj H
    go_wp2
    go_ret
    exact ⟨_, by first | rfl | (simp [errW_none, errW_some] <;> rfl) | (simp [*, errW_none, errW_some] <;> rfl), by (with_reducible repeat (first | apply Kd.R_alloc | apply Kd.R_drewN | apply Kd.R_drew)); exact HO_3.out, by repeat (first | (with_reducible first | exact HB.out | apply below_alloc | apply pw_below_drewN | apply below_drew1) | exact HB.out)⟩

/-! ### tok_Is: function 12 -/
def tok_Is.f (a0 : Int) (l1 : List Int) : Option (Bool) := if a0 = 0 then (some ((l1.length : Int) == 1)) else (if a0 = 1 then (if (l1.length : Int) > 0 then (if 0 ≤ (wrap64 ((l1.length : Int) - 1)) then (if (wrap64 ((l1.length : Int) - 1)) ≤ (l1.length : Int) then ((bytes_IndexByte.f (l1.take ((wrap64 ((l1.length : Int) - 1)) : Int).toNat) 10).bind fun t156 => (some (decide (t156 < 0)))) else (none)) else (none)) else (some false)) else (some false))
set_option maxHeartbeats 8000000 in
set_option maxRecDepth 100000 in
theorem tok_Is.calls (a0 : Int) (A1 : Option Addr) (c1 : Nat) (l1 : List Int) (r : Bool) (w : World) (hr1 : Kd.C (Kd.int .u8) w A1 l1.length l1) (hc1 : l1.length ≤ c1) (h : tok_Is.f a0 l1 = some r) :
  Calls Try.prog 12 #[.int .i64 a0, .slice A1 l1.length c1] w fun e w' => e = .returned (.bool r) ∧ Drawn0 w w' := by
 have HR1 := Aside0.mk hr1
 have HC1 := Aside0.mk hc1
 clear hr1 hc1
 have H : (if a0 = 0 then (some ((l1.length : Int) == 1)) else (if a0 = 1 then (if (l1.length : Int) > 0 then (if 0 ≤ (wrap64 ((l1.length : Int) - 1)) then (if (wrap64 ((l1.length : Int) - 1)) ≤ (l1.length : Int) then ((bytes_IndexByte.f (l1.take ((wrap64 ((l1.length : Int) - 1)) : Int).toNat) 10).bind fun t156 => (some (decide (t156 < 0)))) else (none)) else (none)) else (some false)) else (some false))) = some r := h
 clear h
 by_cases c3 : a0 = 0
 ·rw [if_pos c3] at H
  have c3b0 : (a0 == 0) = true := beq_iff_eq.mpr c3
  have c3b1 : (a0 != 0) = false := bne_eq_false_iff_eq.mpr c3
  clear c3
  obtain rfl := Option.some.inj H
  go_enter Try.func12, Try.ntmps12
  go_wp2
  go_ret
  exact ⟨by first | rfl | (simp; done) | (simp [*]; done), by repeat (first | exact Drawn0.refl _ | apply Drawn0.step)⟩
 ·rw [if_neg c3] at H
  have c3b0 : (a0 == 0) = false := beq_eq_false_iff_ne.mpr c3
  have c3b1 : (a0 != 0) = true := bne_iff_ne.mpr c3
  by_cases c4 : a0 = 1
  ·rw [if_pos c4] at H
   have c4b0 : (a0 == 1) = true := beq_iff_eq.mpr c4
   have c4b1 : (a0 != 1) = false := bne_eq_false_iff_eq.mpr c4
   clear c4
   by_cases c5 : (l1.length : Int) > 0
   ·rw [if_pos c5] at H
    have c5b0 : decide (0 < (l1.length : Int)) = true := decide_eq_true c5
    have c5b1 : decide (0 < l1.length) = true := decide_eq_true (by omega)
    clear c5
    obtain ⟨ji6, hji6⟩ : ∃ j_ : Int, (wrap64 ((l1.length : Int) - 1)) = j_ := ⟨_, rfl⟩
    replace H : (if 0 ≤ (ji6) then (if (ji6) ≤ (l1.length : Int) then ((bytes_IndexByte.f (l1.take ((ji6) : Int).toNat) 10).bind fun t156 => (some (decide (t156 < 0)))) else (none)) else (none)) = some r := by first | (rw [hji6] at H; exact H) | (simp only [hji6] at H ⊢; exact H)
    have hji6w : (IntKind.i64.wrap ((l1.length : Int) - 1)) = ji6 := (i64_w _).trans hji6
    by_cases c7 : 0 ≤ (ji6)
    ·rw [if_pos c7] at H
     have c7b0 := eq_true c7
     have c7b1 : decide (0 ≤ (ji6)) = true := decide_eq_true c7
     clear c7
     by_cases c8 : (ji6) ≤ (l1.length : Int)
     ·rw [if_pos c8] at H
      have c8b0 := eq_true c8
      have c8b1 : decide ((ji6) ≤ (l1.length : Int)) = true := decide_eq_true c8
      clear c8
      replace H := Option.bind_eq_some_iff.mp H
      obtain ⟨t156, A90, H⟩ := H
      replace H : (some (decide (t156 < 0))) = some r := H
      have A9 := Aside0.mk A90
      clear A90
      obtain rfl := Option.some.inj H
      obtain ⟨i010, hi010, _, hsz10, _⟩ := info_parts info5
      obtain ⟨hcut10, hA10, hC10⟩ := print_take_of (P := Try.prog) (Value.int .u8) 0 22 5 .i64 Try.underlying22 hi010 hsz10 A1 c1 l1 (ji6) (of_decide_eq_true (by first | (with_reducible assumption) | assumption)) (of_decide_eq_true (by first | (with_reducible assumption) | assumption)) HC1.out
      have HR155 := Aside0.mk (Kd.C_of_reads (h1 := fun _ => rfl) (hA10 _ (Kd.reads_of_C HR1.out)))
      have HC155 := Aside0.mk hC10
      clear hA10 hC10 hi010 hsz10
      go_enter Try.func12, Try.ntmps12
      go_wp2_with (first | (go_at_call 22; refine calls_of_args (args' := #[.slice A1 (l1.take ((ji6) : Int).toNat).length c1, .int .u8 10]) (by first | rfl | (simp only [List.length_drop, List.length_take]; rfl) | (simp only [List.length_take]; rw [Nat.min_eq_left (by have h_ := of_decide_eq_true (show decide (ji6 ≤ (l1.length : Int)) = true by first | (with_reducible assumption) | assumption); omega)])) ?_; (with_reducible refine (bytes_IndexByte.calls _ _ (l1.take ((ji6) : Int).toNat) 10 t156 _ ?side1 ?side2 A9.out).mono ?_); (case side1 => repeat (first | exact HR155.out | (with_reducible refine Kd.C_alloc ?_ _) | (with_reducible refine Kd.C_drewN ?_ _) | (with_reducible refine Kd.C_drew ?_))); (case side2 => exact HC155.out); rintro e w' ⟨rfl, ⟨nd, rfl⟩⟩))
      go_ret
      exact ⟨by first | rfl | (simp; done) | (simp only [← hji6] <;> (first | rfl | simp)) | (simp [*]; done), by repeat (first | exact Drawn0.refl _ | apply Drawn0.step)⟩
     ·rw [if_neg c8] at H
      exact absurd H (by simp)
    ·rw [if_neg c7] at H
     exact absurd H (by simp)
   ·rw [if_neg c5] at H
    have c5b0 : decide (0 < (l1.length : Int)) = false := decide_eq_false c5
    have c5b1 : decide (0 < l1.length) = false := decide_eq_false (by omega)
    clear c5
    obtain rfl := Option.some.inj H
    go_enter Try.func12, Try.ntmps12
    go_wp2
    go_ret
    exact ⟨by first | rfl | (simp; done) | (simp [*]; done), by repeat (first | exact Drawn0.refl _ | apply Drawn0.step)⟩
  ·rw [if_neg c4] at H
   have c4b0 : (a0 == 1) = false := beq_eq_false_iff_ne.mpr c4
   have c4b1 : (a0 != 1) = true := bne_iff_ne.mpr c4
   obtain rfl := Option.some.inj H
   go_enter Try.func12, Try.ntmps12
   go_wp2
   go_ret
   exact ⟨by first | rfl | (simp; done) | (simp [*]; done), by repeat (first | exact Drawn0.refl _ | apply Drawn0.step)⟩

/-! ### tok_Mode: function 15 -/
def tok_Mode.f (a0 : ByteArray) : Option (Int × Bool) := if a0.toList = ([98, 121, 116, 101, 115] : List UInt8) then (some (0, true)) else (if a0.toList = ([108, 105, 110, 101, 115] : List UInt8) then (some (1, true)) else (some (0, false)))
set_option maxHeartbeats 8000000 in
set_option maxRecDepth 100000 in
theorem tok_Mode.calls (a0 : ByteArray) (r1 : Int) (r2 : Bool) (w : World) (h : tok_Mode.f a0 = some (r1, r2)) :
  Calls Try.prog 15 #[.string a0] w fun e w' => e = .returned (.tuple #[.int .i64 r1, .bool r2]) ∧ Drawn0 w w' := by
 have H : (if a0.toList = ([98, 121, 116, 101, 115] : List UInt8) then (some (0, true)) else (if a0.toList = ([108, 105, 110, 101, 115] : List UInt8) then (some (1, true)) else (some (0, false)))) = some (r1, r2) := h
 clear h
 by_cases c2 : a0.toList = ([98, 121, 116, 101, 115] : List UInt8)
 ·rw [if_pos c2] at H
  have c2b0 : (a0.toList == ([98, 121, 116, 101, 115] : List UInt8)) = true := beq_iff_eq.mpr c2
  have c2b1 : (a0.toList != ([98, 121, 116, 101, 115] : List UInt8)) = false := bne_eq_false_iff_eq.mpr c2
  clear c2
  simp only [Option.some.injEq, Prod.mk.injEq] at H
  obtain ⟨rfl, rfl⟩ := H
  go_enter Try.func15, Try.ntmps15
  go_wp2
  go_ret2
  exact ⟨by first | rfl | (simp; done) | (simp [*]; done), by repeat (first | exact Drawn0.refl _ | apply Drawn0.step)⟩
 ·rw [if_neg c2] at H
  have c2b0 : (a0.toList == ([98, 121, 116, 101, 115] : List UInt8)) = false := beq_eq_false_iff_ne.mpr c2
  have c2b1 : (a0.toList != ([98, 121, 116, 101, 115] : List UInt8)) = true := bne_iff_ne.mpr c2
  by_cases c3 : a0.toList = ([108, 105, 110, 101, 115] : List UInt8)
  ·rw [if_pos c3] at H
   have c3b0 : (a0.toList == ([108, 105, 110, 101, 115] : List UInt8)) = true := beq_iff_eq.mpr c3
   have c3b1 : (a0.toList != ([108, 105, 110, 101, 115] : List UInt8)) = false := bne_eq_false_iff_eq.mpr c3
   clear c3
   simp only [Option.some.injEq, Prod.mk.injEq] at H
   obtain ⟨rfl, rfl⟩ := H
   go_enter Try.func15, Try.ntmps15
   go_wp2
   go_ret2
   exact ⟨by first | rfl | (simp; done) | (simp [*]; done), by repeat (first | exact Drawn0.refl _ | apply Drawn0.step)⟩
  ·rw [if_neg c3] at H
   have c3b0 : (a0.toList == ([108, 105, 110, 101, 115] : List UInt8)) = false := beq_eq_false_iff_ne.mpr c3
   have c3b1 : (a0.toList != ([108, 105, 110, 101, 115] : List UInt8)) = true := bne_iff_ne.mpr c3
   simp only [Option.some.injEq, Prod.mk.injEq] at H
   obtain ⟨rfl, rfl⟩ := H
   go_enter Try.func15, Try.ntmps15
   go_wp2
   go_ret2
   exact ⟨by first | rfl | (simp; done) | (simp [*]; done), by repeat (first | exact Drawn0.refl _ | apply Drawn0.step)⟩

/-! ### tattinglaw1_awake: function 9 -/
def tattinglaw1_awake.f (k : Nat)  : Option (Bool) := (tok_Cut.f k 1 (([97, 10, 10, 98] : List Int))).bind fun bt160 => ((tok_Mode.f (⟨#[108, 105, 110, 101, 115]⟩ : ByteArray)).bind fun bt164 => (if bt160.2 = 0 then (if (bt160.1.length : Int) = 3 then (if 1 < (bt160.1.length : Int) then (if (strOfNums (rd_L1 bt160.1 1)).toList = ([10] : List UInt8) then ((tok_Join.f k bt160.1).bind fun t167 => (if (strOfNums t167).toList = ([97, 10, 10, 98] : List UInt8) then (if bt164.2 = true then (if bt164.1 = 1 then ((tok_Is.f 0 (([10] : List Int))).bind fun t173 => (some t173)) else (some false)) else (some false)) else (some false))) else (some false)) else (none)) else (some false)) else (some false)))
theorem tattinglaw1_awake.mono : ∀ k, LeO (tattinglaw1_awake.f k ) (tattinglaw1_awake.f (k + 1) ) := by
 intro  k
 unfold tattinglaw1_awake.f
 repeat' first
   | (with_reducible exact tok_Cut.mono _ _ _)
   | (with_reducible exact tok_Join.mono _ _)
   | (with_reducible exact LeO.refl _)
   | (with_reducible exact LeO.none _)
   | (with_reducible refine LeO.ite ?_ ?_)
   | (with_reducible refine LeO.bind ?_ (fun _ => ?_))
   | exact tok_Cut.mono _ _ _
   | exact tok_Join.mono _ _
   | exact LeO.none _
   | refine LeO.ite ?_ ?_
   | refine LeO.bind ?_ (fun _ => ?_)
set_option maxHeartbeats 8000000 in
set_option maxRecDepth 100000 in
theorem tattinglaw1_awake.calls (k : Nat)  (r : Bool) (w : World) (h : tattinglaw1_awake.f k  = some r) (hr_ : r = true) :
  Calls Try.prog 9 #[] w fun e w' => e = .returned (.bool r) ∧ Below w.heap.size w w' := by
 have HB := Aside0.mk (Below.refl w.heap.size w)
 have H : ((tok_Cut.f k 1 (([97, 10, 10, 98] : List Int))).bind fun bt160 => ((tok_Mode.f (⟨#[108, 105, 110, 101, 115]⟩ : ByteArray)).bind fun bt164 => (if bt160.2 = 0 then (if (bt160.1.length : Int) = 3 then (if 1 < (bt160.1.length : Int) then (if (strOfNums (rd_L1 bt160.1 1)).toList = ([10] : List UInt8) then ((tok_Join.f k bt160.1).bind fun t167 => (if (strOfNums t167).toList = ([97, 10, 10, 98] : List UInt8) then (if bt164.2 = true then (if bt164.1 = 1 then ((tok_Is.f 0 (([10] : List Int))).bind fun t173 => (some t173)) else (some false)) else (some false)) else (some false))) else (some false)) else (none)) else (some false)) else (some false)))) = some r := h
 clear h
 obtain ⟨y157, hy157⟩ : ∃ y_ : List Int, y_ = (([97, 10, 10, 98] : List Int)) := ⟨_, rfl⟩
 replace H : ((tok_Cut.f k 1 y157).bind fun bt160 => ((tok_Mode.f (⟨#[108, 105, 110, 101, 115]⟩ : ByteArray)).bind fun bt164 => (if bt160.2 = 0 then (if (bt160.1.length : Int) = 3 then (if 1 < (bt160.1.length : Int) then (if (strOfNums (rd_L1 bt160.1 1)).toList = ([10] : List UInt8) then ((tok_Join.f k bt160.1).bind fun t167 => (if (strOfNums t167).toList = ([97, 10, 10, 98] : List UInt8) then (if bt164.2 = true then (if bt164.1 = 1 then ((tok_Is.f 0 (([10] : List Int))).bind fun t173 => (some t173)) else (some false)) else (some false)) else (some false))) else (some false)) else (none)) else (some false)) else (some false)))) = some r := by first | (rw [hy157]; with_reducible exact H) | (have H2_ := (Option.bind_some _ _).symm.trans H; rw [hy157]; with_reducible exact H2_) | (have H2_ := (Option.bind_some _ _).symm.trans H; with_reducible exact H2_) | with_reducible exact H | (rw [hy157]; exact H) | exact H
 have Ny157 := Aside0.mk hy157
 clear hy157
 replace H := Option.bind_eq_some_iff.mp H
 obtain ⟨⟨t160, t163⟩, A10, H⟩ := H
 replace H : ((tok_Mode.f (⟨#[108, 105, 110, 101, 115]⟩ : ByteArray)).bind fun bt164 => (if t163 = 0 then (if (t160.length : Int) = 3 then (if 1 < (t160.length : Int) then (if (strOfNums (rd_L1 t160 1)).toList = ([10] : List UInt8) then ((tok_Join.f k t160).bind fun t167 => (if (strOfNums t167).toList = ([97, 10, 10, 98] : List UInt8) then (if bt164.2 = true then (if bt164.1 = 1 then ((tok_Is.f 0 (([10] : List Int))).bind fun t173 => (some t173)) else (some false)) else (some false)) else (some false))) else (some false)) else (none)) else (some false)) else (some false))) = some r := H
 have A1 := Aside0.mk A10
 clear A10
 replace H := Option.bind_eq_some_iff.mp H
 obtain ⟨⟨t164, t165⟩, A20, H⟩ := H
 replace H : (if t163 = 0 then (if (t160.length : Int) = 3 then (if 1 < (t160.length : Int) then (if (strOfNums (rd_L1 t160 1)).toList = ([10] : List UInt8) then ((tok_Join.f k t160).bind fun t167 => (if (strOfNums t167).toList = ([97, 10, 10, 98] : List UInt8) then (if t165 = true then (if t164 = 1 then ((tok_Is.f 0 (([10] : List Int))).bind fun t173 => (some t173)) else (some false)) else (some false)) else (some false))) else (some false)) else (none)) else (some false)) else (some false)) = some r := H
 have A2 := Aside0.mk A20
 clear A20
 by_cases c3 : t163 = 0
 ·rw [if_pos c3] at H
  have c3b0 : (t163 == 0) = true := beq_iff_eq.mpr c3
  have c3b1 : (t163 != 0) = false := bne_eq_false_iff_eq.mpr c3
  clear c3
  by_cases c4 : (t160.length : Int) = 3
  ·rw [if_pos c4] at H
   have c4b0 : ((t160.length : Int) == 3) = true := beq_iff_eq.mpr c4
   have c4b1 : ((t160.length : Int) != 3) = false := bne_eq_false_iff_eq.mpr c4
   clear c4
   by_cases c5 : 1 < (t160.length : Int)
   ·rw [if_pos c5] at H
    have c5b0 : decide (1 < (t160.length : Int)) = true := decide_eq_true c5
    have c5b1 : decide (1 < t160.length) = true := decide_eq_true (by omega)
    clear c5
    by_cases c6 : (strOfNums (rd_L1 t160 1)).toList = ([10] : List UInt8)
    ·rw [if_pos c6] at H
     have c6b0 : ((strOfNums (rd_L1 t160 1)).toList == ([10] : List UInt8)) = true := beq_iff_eq.mpr c6
     have c6b1 : ((strOfNums (rd_L1 t160 1)).toList != ([10] : List UInt8)) = false := bne_eq_false_iff_eq.mpr c6
     clear c6
     replace H := Option.bind_eq_some_iff.mp H
     obtain ⟨t167, A70, H⟩ := H
     replace H : (if (strOfNums t167).toList = ([97, 10, 10, 98] : List UInt8) then (if t165 = true then (if t164 = 1 then ((tok_Is.f 0 (([10] : List Int))).bind fun t173 => (some t173)) else (some false)) else (some false)) else (some false)) = some r := H
     have A7 := Aside0.mk A70
     clear A70
     by_cases c8 : (strOfNums t167).toList = ([97, 10, 10, 98] : List UInt8)
     ·rw [if_pos c8] at H
      have c8b0 : ((strOfNums t167).toList == ([97, 10, 10, 98] : List UInt8)) = true := beq_iff_eq.mpr c8
      have c8b1 : ((strOfNums t167).toList != ([97, 10, 10, 98] : List UInt8)) = false := bne_eq_false_iff_eq.mpr c8
      clear c8
      by_cases c9 : t165 = true
      ·subst c9
       have H1 : (if t164 = 1 then ((tok_Is.f 0 (([10] : List Int))).bind fun t173 => (some t173)) else (some false)) = some r := by rw [if_pos rfl] at H; exact H
       clear H
       have H := H1
       clear H1
       by_cases c10 : t164 = 1
       ·rw [if_pos c10] at H
        have c10b0 : (t164 == 1) = true := beq_iff_eq.mpr c10
        have c10b1 : (t164 != 1) = false := bne_eq_false_iff_eq.mpr c10
        clear c10
        obtain ⟨y170, hy170⟩ : ∃ y_ : List Int, y_ = (([10] : List Int)) := ⟨_, rfl⟩
        replace H : ((tok_Is.f 0 y170).bind fun t173 => (some t173)) = some r := by first | (rw [hy170]; with_reducible exact H) | (have H2_ := (Option.bind_some _ _).symm.trans H; rw [hy170]; with_reducible exact H2_) | (have H2_ := (Option.bind_some _ _).symm.trans H; with_reducible exact H2_) | with_reducible exact H | (rw [hy170]; exact H) | exact H
        have Ny170 := Aside0.mk hy170
        clear hy170
        replace H := Option.bind_eq_some_iff.mp H
        obtain ⟨t173, A110, H⟩ := H
        replace H : (some t173) = some r := H
        have A11 := Aside0.mk A110
        clear A110
        obtain rfl := Option.some.inj H
        go_enter Try.func9, Try.ntmps9
        go_wp2_with (first | ((with_reducible refine gate_dst (N := 6) rfl ?_); (try (refine gate_guard (by rfl) ?_; dsimp only)); refine Kd.V_lit (Kd.int .u8) _ 5 ?hg (N := 6) ?hd (xs := ([97, 10, 10, 98] : List Int)) (inner := [.int .u8 97, .int .u8 10, .int .u8 10, .int .u8 98]) (ok := fun _ => True) (okp := fun _ => True) ?hr ?hp (fun _ hk => hk) trivial (Below.refl _ _) (Nat.le_refl _) (by simp) rfl (by first | kernel_rfl | rfl) (by first | kernel_rfl | rfl) rfl (of_decide_eq_true (by first | kernel_rfl | rfl)) Try.underlying22 Try.underlying5 ?_; (case hd => rfl); (case hg => rfl); (case hr => first | (go_simp; done) | (go_simp; rfl)); (case hp => exact (Reps.one (show Kd.M (Kd.int .u8) _ _ _ 97 [.int .u8 97] from rfl) (Reps.one (show Kd.M (Kd.int .u8) _ _ _ 10 [.int .u8 10] from rfl) (Reps.one (show Kd.M (Kd.int .u8) _ _ _ 10 [.int .u8 10] from rfl) (Reps.one (show Kd.M (Kd.int .u8) _ _ _ 98 [.int .u8 98] from rfl) (Reps.none _ _)))))); intro v158 w12 ho13 hb hg_ hnew_; (try clear hg_); (try clear hnew_); (first | rw [← Ny157.out] at ho13 | (simp only [Int.reduceToNat] at ho13; rw [← Ny157.out] at ho13)); have n0_ := Aside0.mk (Kd.V_lower (Kd.V_mono (ok' := fun k_ => True) (by first | exact ho13 | exact Kd.S_V ho13 | exact Kd.R_V ho13 | exact Kd.N_V ho13) (fun k_ hk_ => trivial)) (below_size (by repeat (first | (with_reducible first | exact HB.out | apply below_alloc | apply pw_below_drewN | apply below_drew1) | exact HB.out)))); have n1_ := Aside0.mk (below_step (by repeat (first | (with_reducible first | exact HB.out | apply below_alloc | apply pw_below_drewN | apply below_drew1) | exact HB.out)) hb); clear HB; have HO159 := n0_; have HB := n1_; clear n0_ n1_; (try clear hb); (try clear ho13); obtain ⟨Ao14, co14, eo14⟩ := Kd.V_slice HO159.out; subst eo14) | ((first | (with_reducible refine gate_callee (f := 10) rfl ?_); refine goesL_ (some 8) rfl rfl Try.func10 (by kernel_rfl) rfl #[.int .i64 1, .slice Ao14 y157.length co14] rfl (by (try simp only [List.map_toArray, List.map_cons, List.map_nil]); first | done | rfl | (simp only [List.length_drop, List.length_take]; rfl)) ?_ | go_at_call 10); (with_reducible refine (tok_Cut.calls k 1 (fun k_ => True) _ _ y157 t160 t163 _ ?side1 A1.out).mono ?_); (case side1 => exact HO159.out); rintro e w15 ⟨v161, rfl, ho0, hb⟩; (try refine ⟨_, rfl, ?_⟩); have n0_ := Aside0.mk (Kd.V_elder' (by (with_reducible repeat (first | apply Kd.V_alloc | apply Kd.V_drewN | apply Kd.V_drew)); exact HO159.out) (Kd.S_base ho0) hb); have n1_ := Aside0.mk (Kd.S_lower (Kd.S_mono (ok' := fun k_ => True) ho0 (fun _ hk_ => trivial)) (below_size (by repeat (first | (with_reducible first | exact HB.out | apply below_alloc | apply pw_below_drewN | apply below_drew1) | exact HB.out)))); have n2_ := Aside0.mk (below_step (by repeat (first | (with_reducible first | exact HB.out | apply below_alloc | apply pw_below_drewN | apply below_drew1) | exact HB.out)) hb); clear HO159; clear HB; have HO159 := n0_; have HO162 := n1_; have HB := n2_; clear n0_ n1_ n2_; (try clear hb); (try clear hb2); (try clear hk); (try clear hi); (try clear ho0)) | ((first | (with_reducible refine gate_callee (f := 15) rfl ?_); refine goesL_ (some 12) rfl rfl Try.func15 (by kernel_rfl) rfl #[.string (⟨#[108, 105, 110, 101, 115]⟩ : ByteArray)] rfl (by (try simp only [List.map_toArray, List.map_cons, List.map_nil]); first | done | rfl | (simp only [List.length_drop, List.length_take]; rfl)) ?_ | go_at_call 15); (with_reducible refine (tok_Mode.calls (⟨#[108, 105, 110, 101, 115]⟩ : ByteArray) t164 true _ A2.out).mono ?_); rintro e w' ⟨rfl, ⟨nd, rfl⟩⟩; (try refine ⟨_, rfl, ?_⟩); obtain ⟨Ao16, co16, eo16⟩ := Kd.S_slice HO162.out; subst eo16; have p166 : 0 ≤ (1 : Int) := (by omega); have q166 : 1 < (t160.length : Int) := of_decide_eq_true (by first | (with_reducible assumption) | assumption); obtain ⟨ad166, A166_0, c166_0, e166, hx166_0, hl166_0, hi166_0⟩ := at_L1 (Kd.S_reads' HO162.out).2.2 1 p166 q166; cases e166; obtain ⟨ce166, hce166, hMe166, hcc166⟩ := Kd.S_get HO162.out [] 1 p166 (by first | exact q166 | exact of_decide_eq_true (by first | (with_reducible assumption) | assumption) | (have e_ := (Kd.S_reads' HO162.out).1; omega)); obtain ⟨ve166_0, rfl, ge166_0⟩ := hMe166; have hv166_0 := hcc166 0 _ rfl; rw [Nat.add_zero, show ((Kd.slice 5 (Kd.int .u8))).sz = 1 from rfl, Nat.mul_one] at hv166_0; replace hv166_0 := Option.some.inj (hv166_0.symm.trans hx166_0); rw [hv166_0] at ge166_0; have HL166_0 := Aside0.mk (show Kd.R (Kd.int .u8) 5 _ _ _ _ (rd_L1 t160 1) from ge166_0); clear hv166_0 ge166_0; (try clear hcc166); (try clear hce166); (try simp only [show (1 : Int).toNat = 1 from rfl, Nat.reduceMul, Nat.reduceEqDiff, Go.Addr.add, ↓reduceIte] at hx166_0); have qi166 : (1 < t160.length) = True := eq_true (by omega); (try rw [show ((1 : Int)).toNat = 1 from rfl] at hx166_0); have HR166_0 := Aside0.mk hi166_0; have HC166_0 := Aside0.mk hl166_0; (try clear hi166_0); (try clear hl166_0); replace p166 := eq_true p166; replace q166 := eq_true q166; have hcv17 := Kd.C_string (P := Try.prog) (A := A166_0) (c := c166_0) Try.underlying22 Try.underlying5 Try.underlying9 (by repeat (first | (with_reducible exact HR166_0.out) | (with_reducible refine Kd.C_alloc ?_ _) | (with_reducible refine Kd.C_drewN ?_ _) | (with_reducible refine Kd.C_drew ?_) | exact HR166_0.out)); have hcvd18 := fun nd_ => Kd.C_string (P := Try.prog) (A := A166_0) (c := c166_0) Try.underlying22 Try.underlying5 Try.underlying9 (Kd.C_drewN (by repeat (first | (with_reducible exact HR166_0.out) | (with_reducible refine Kd.C_alloc ?_ _) | (with_reducible refine Kd.C_drewN ?_ _) | (with_reducible refine Kd.C_drew ?_) | exact HR166_0.out)) nd_)) | (go_at_call 11; (with_reducible refine (tok_Join.calls k _ _ t160 t167 _ ?side1 ?side2 A7.out).mono ?_); (case side1 => repeat (first | exact (Kd.S_reads' HO162.out).2.2 | (with_reducible refine Kd.C_alloc ?_ _) | (with_reducible refine Kd.C_drewN ?_ _) | (with_reducible refine Kd.C_drew ?_))); (case side2 => exact (Kd.S_reads' HO162.out).2.1); rintro e w19 ⟨v168, rfl, ho0, hb⟩; have n0_ := Aside0.mk (Kd.V_elder' (by (with_reducible repeat (first | apply Kd.V_alloc | apply Kd.V_drewN | apply Kd.V_drew)); exact HO159.out) (Kd.R_base ho0) hb); have n1_ := Aside0.mk (Kd.S_elder' (by (with_reducible repeat (first | apply Kd.S_alloc | apply Kd.S_drewN | apply Kd.S_drew)); exact HO162.out) (Kd.R_base ho0) hb); have n2_ := Aside0.mk (Kd.R_elder' (by (with_reducible repeat (first | apply Kd.R_alloc | apply Kd.R_drewN | apply Kd.R_drew)); exact HL166_0.out) (Kd.R_base ho0) hb); have n3_ := Aside0.mk (Kd.R_lower (Kd.R_new' ho0 (Kd.R_lt (by (with_reducible repeat (first | apply Kd.R_alloc | apply Kd.R_drewN | apply Kd.R_drew)); exact HL166_0.out))) (below_size (by repeat (first | (with_reducible first | exact HB.out | apply below_alloc | apply pw_below_drewN | apply below_drew1) | exact HB.out)))); have n4_ := Aside0.mk (Kd.C_below (by first | (with_reducible exact Kd.C_drewN HR166_0.out _) | (repeat (first | (with_reducible exact HR166_0.out) | (with_reducible refine Kd.C_alloc ?_ _) | (with_reducible refine Kd.C_drewN ?_ _) | (with_reducible refine Kd.C_drew ?_) | exact HR166_0.out))) hb); have n5_ := Aside0.mk (below_step (by repeat (first | (with_reducible first | exact HB.out | apply below_alloc | apply pw_below_drewN | apply below_drew1) | exact HB.out)) hb); clear HO159; clear HO162; clear HL166_0; clear HR166_0; clear HB; have HO159 := n0_; have HO162 := n1_; have HL166_0 := n2_; have HO169 := n3_; have HR166_0 := n4_; have HB := n5_; clear n0_ n1_ n2_ n3_ n4_ n5_; (try clear hb); (try clear hb2); (try clear hk); (try clear hi); (try clear ho0); have hcv20 := own_string (P := Try.prog) Try.underlying22 Try.underlying5 Try.underlying9 (Kd.own_of_R HO169.out); have hcvd21 := fun nd_ => own_string (P := Try.prog) Try.underlying22 Try.underlying5 Try.underlying9 (Kd.own_of_R (Kd.R_drewN HO169.out nd_))) | ((with_reducible refine gate_dst (N := 43) rfl ?_); (try (refine gate_guard (by rfl) ?_; dsimp only)); refine Kd.R_lit (Kd.int .u8) _ 5 ?hg (N := 43) ?hd (xs := ([10] : List Int)) (inner := [.int .u8 10]) (ok := fun _ => True) (okp := fun _ => True) ?hr ?hp (fun _ hk => hk) trivial (Below.refl _ _) (Nat.le_refl _) (by simp) ?_; (case hd => rfl); (case hg => rfl); (case hr => first | (go_simp; done) | (go_simp; rfl)); (case hp => exact (Reps.one (show Kd.M (Kd.int .u8) _ _ _ 10 [.int .u8 10] from rfl) (Reps.none _ _))); intro v171 w22 ho23 hb hg_ hnew_; (try clear hg_); (try clear hnew_); (first | rw [← Ny170.out] at ho23 | (simp only [Int.reduceToNat] at ho23; rw [← Ny170.out] at ho23)); have n0_ := Aside0.mk (Kd.V_elder' (by (with_reducible repeat (first | apply Kd.V_alloc | apply Kd.V_drewN | apply Kd.V_drew)); exact HO159.out) (Kd.R_base ho23) hb); have n1_ := Aside0.mk (Kd.S_elder' (by (with_reducible repeat (first | apply Kd.S_alloc | apply Kd.S_drewN | apply Kd.S_drew)); exact HO162.out) (Kd.R_base ho23) hb); have n2_ := Aside0.mk (Kd.R_elder' (by (with_reducible repeat (first | apply Kd.R_alloc | apply Kd.R_drewN | apply Kd.R_drew)); exact HL166_0.out) (Kd.R_base ho23) hb); have n3_ := Aside0.mk (Kd.R_elder' (by (with_reducible repeat (first | apply Kd.R_alloc | apply Kd.R_drewN | apply Kd.R_drew)); exact HO169.out) (Kd.R_base ho23) hb); have n4_ := Aside0.mk (Kd.R_lower (Kd.R_new' (Kd.R_new' ho23 (Kd.R_lt (by (with_reducible repeat (first | apply Kd.R_alloc | apply Kd.R_drewN | apply Kd.R_drew)); exact HL166_0.out))) (Kd.R_lt (by (with_reducible repeat (first | apply Kd.R_alloc | apply Kd.R_drewN | apply Kd.R_drew)); exact HO169.out))) (below_size (by repeat (first | (with_reducible first | exact HB.out | apply below_alloc | apply pw_below_drewN | apply below_drew1) | exact HB.out)))); have n5_ := Aside0.mk (Kd.C_below (by first | (with_reducible exact Kd.C_drewN HR166_0.out _) | (repeat (first | (with_reducible exact HR166_0.out) | (with_reducible refine Kd.C_alloc ?_ _) | (with_reducible refine Kd.C_drewN ?_ _) | (with_reducible refine Kd.C_drew ?_) | exact HR166_0.out))) hb); have n6_ := Aside0.mk (below_step (by repeat (first | (with_reducible first | exact HB.out | apply below_alloc | apply pw_below_drewN | apply below_drew1) | exact HB.out)) hb); clear HO159; clear HO162; clear HL166_0; clear HO169; clear HR166_0; clear HB; have HO159 := n0_; have HO162 := n1_; have HL166_0 := n2_; have HO169 := n3_; have HO172 := n4_; have HR166_0 := n5_; have HB := n6_; clear n0_ n1_ n2_ n3_ n4_ n5_ n6_; (try clear hb); (try clear ho23); obtain ⟨Ao24, co24, eo24⟩ := Kd.R_slice HO172.out; subst eo24) | (go_at_call 12; (with_reducible refine (tok_Is.calls 0 _ _ y170 t173 _ ?side1 ?side2 A11.out).mono ?_); (case side1 => repeat (first | exact (Kd.R_reads' HO172.out).2.2 | (with_reducible refine Kd.C_alloc ?_ _) | (with_reducible refine Kd.C_drewN ?_ _) | (with_reducible refine Kd.C_drew ?_))); (case side2 => exact (Kd.R_reads' HO172.out).2.1); rintro e w' ⟨rfl, ⟨nd, rfl⟩⟩))
        go_ret
        exact ⟨by first | rfl | (simp [errW_none, errW_some] <;> rfl) | (simp [*, errW_none, errW_some] <;> rfl), by repeat (first | (with_reducible first | exact HB.out | apply below_alloc | apply pw_below_drewN | apply below_drew1) | exact HB.out)⟩
       ·rw [if_neg c10] at H
        have c10b0 : (t164 == 1) = false := beq_eq_false_iff_ne.mpr c10
        have c10b1 : (t164 != 1) = true := bne_iff_ne.mpr c10
        exact absurd (Option.some.inj H) (by rw [hr_]; decide)
      ·replace c9 := Bool.eq_false_iff.mpr c9
       subst c9
       have H1 : (some false) = some r := by rw [if_neg (show ¬ (false = true) by decide)] at H; exact H
       clear H
       have H := H1
       clear H1
       exact absurd (Option.some.inj H) (by rw [hr_]; decide)
     ·rw [if_neg c8] at H
      have c8b0 : ((strOfNums t167).toList == ([97, 10, 10, 98] : List UInt8)) = false := beq_eq_false_iff_ne.mpr c8
      have c8b1 : ((strOfNums t167).toList != ([97, 10, 10, 98] : List UInt8)) = true := bne_iff_ne.mpr c8
      exact absurd (Option.some.inj H) (by rw [hr_]; decide)
    ·rw [if_neg c6] at H
     have c6b0 : ((strOfNums (rd_L1 t160 1)).toList == ([10] : List UInt8)) = false := beq_eq_false_iff_ne.mpr c6
     have c6b1 : ((strOfNums (rd_L1 t160 1)).toList != ([10] : List UInt8)) = true := bne_iff_ne.mpr c6
     exact absurd (Option.some.inj H) (by rw [hr_]; decide)
   ·rw [if_neg c5] at H
    exact absurd H (by simp)
  ·rw [if_neg c4] at H
   have c4b0 : ((t160.length : Int) == 3) = false := beq_eq_false_iff_ne.mpr c4
   have c4b1 : ((t160.length : Int) != 3) = true := bne_iff_ne.mpr c4
   exact absurd (Option.some.inj H) (by rw [hr_]; decide)
 ·rw [if_neg c3] at H
  have c3b0 : (t163 == 0) = false := beq_eq_false_iff_ne.mpr c3
  have c3b1 : (t163 != 0) = true := bne_iff_ne.mpr c3
  exact absurd (Option.some.inj H) (by rw [hr_]; decide)

/-! ### tok_Ends: function 14 -/
def tok_Ends.l0 : Nat → List Int → Int → List (List Int) → Int → Int → Option (List Int)
 | 0, _, _, _, _, _ => none
 | k + 1, x3, x4, x7, x8, x9 => if x9 < x8 then (if 0 ≤ x9 then (if x9 < (x7.length : Int) then (if x3.length < 17592186044416 then (tok_Ends.l0 k (x3 ++ [wrap64 (x4 + ((rd_L1 x7 x9).length : Int))]) (wrap64 (x4 + ((rd_L1 x7 x9).length : Int))) x7 x8 (wrap64 (x9 + 1))) else (none)) else (none)) else (none)) else (some x3)
def tok_Ends.f (k : Nat) (l0 : List (List Int)) : Option (List Int) := tok_Ends.l0 k ([] : List Int) 0 l0 (l0.length : Int) 0
theorem tok_Ends.mono_l : ∀ k, (∀ y0 y1 y2 y3 y4, LeO (tok_Ends.l0 k y0 y1 y2 y3 y4) (tok_Ends.l0 (k + 1) y0 y1 y2 y3 y4))
 | 0 => fun _ _ _ _ _ r h => by simp [tok_Ends.l0] at h
 | k + 1 => by
  have ih0 := tok_Ends.mono_l k
  ·intro y0 y1 y2 y3 y4
   unfold tok_Ends.l0
   repeat' first
   | (with_reducible exact ih0 _ _ _ _ _)
   | (with_reducible exact LeO.refl _)
   | (with_reducible exact LeO.none _)
   | (with_reducible refine LeO.ite ?_ ?_)
   | (with_reducible refine LeO.bind ?_ (fun _ => ?_))
   | exact ih0 _ _ _ _ _
   | exact LeO.none _
   | refine LeO.ite ?_ ?_
   | refine LeO.bind ?_ (fun _ => ?_)
theorem tok_Ends.mono : ∀ a0 k, LeO (tok_Ends.f k a0) (tok_Ends.f (k + 1) a0) := by
 intro a0 k
 have ih0 := tok_Ends.mono_l k
 unfold tok_Ends.f
 repeat' first
   | (with_reducible exact ih0 _ _ _ _ _)
   | (with_reducible exact LeO.refl _)
   | (with_reducible exact LeO.none _)
   | (with_reducible refine LeO.ite ?_ ?_)
   | (with_reducible refine LeO.bind ?_ (fun _ => ?_))
   | exact ih0 _ _ _ _ _
   | exact LeO.none _
   | refine LeO.ite ?_ ?_
   | refine LeO.bind ?_ (fun _ => ?_)
set_option maxHeartbeats 8000000 in
set_option maxRecDepth 100000 in
theorem tok_Ends.calls (k : Nat) (A0 : Option Addr) (c0 : Nat) (l0 : List (List Int)) (r : List Int) (w : World) (hr0 : Kd.C (Kd.slice 5 (Kd.int .u8)) w A0 l0.length l0) (hc0 : l0.length ≤ c0) (h : tok_Ends.f k l0 = some r) :
  Calls Try.prog 14 #[.slice A0 l0.length c0] w fun e w' => ∃ v0_ : Value, e = .returned (v0_) ∧ Kd.R (Kd.int .i64) 3 w' w.heap.size (fun _ => True) v0_ r ∧ Below w.heap.size w w' := by
 have HR0 := Aside0.mk hr0
 have HC0 := Aside0.mk hc0
 clear hr0 hc0
 have HB := Aside0.mk (Below.refl w.heap.size w)
 have H : (tok_Ends.l0 k ([] : List Int) 0 l0 (l0.length : Int) 0) = some r := h
 clear h
 have H' := Aside0.mk H
 clear H
 go_enter Try.func14, Try.ntmps14
 go_wp2
 go_loopg [3, 4, 9] k (fun kq v3 v4 v9 w' => ∃ (x3_1 : List Int) (x4_1 : Int) (x9_1 : Int), v4 = .int .i64 x4_1 ∧ v9 = .int .i64 x9_1 ∧ Aside0 (tok_Ends.l0 kq x3_1 x4_1 l0 (l0.length : Int) x9_1 = some r) ∧ Aside0 (kq ≤ k) ∧ Aside0 (Kd.R (Kd.int .i64) 3 w' w.heap.size (fun _ => True) v3 x3_1) ∧ Aside0 (Below w.heap.size w w'))
 case atStart => exact ⟨(([] : List Int)), (0), (0), (by first | rfl | (simp; done) | (simp [*]; done)), (by first | rfl | (simp; done) | (simp [*]; done)), H', ⟨Nat.le_refl _⟩, ⟨by first | exact Kd.R_nil _ _ _ _ _ | exact Kd.N_nil _ _ _ _ _ | exact Kd.V_nil _ _ _ _ _ | exact Kd.Q_nil _ _ _ _ _ | exact Kd.S_nil _ _ _ _ _⟩, ⟨by repeat (first | (with_reducible first | exact HB.out | apply below_alloc | apply pw_below_drewN | apply below_drew1) | exact HB.out)⟩⟩
 case round =>
  clear H'
  try clear c1
  obtain ⟨x3_1, x4_1, x9_1, rfl, rfl, HA, HK1, HO_3, HB⟩ := hrel
  cases gk with
  | zero => exact absurd HA.out (by simp [tok_Ends.l0])
  | succ k1 =>
   have H := HA.out
   clear HA
   simp only [tok_Ends.l0] at H
   by_cases c2 : x9_1 < (l0.length : Int)
   ·rw [if_pos c2] at H
    have c2b0 : decide (x9_1 < (l0.length : Int)) = true := decide_eq_true c2
    clear c2
    by_cases c3 : 0 ≤ x9_1
    ·rw [if_pos c3] at H
     have c3b0 : decide (0 ≤ x9_1) = true := decide_eq_true c3
     clear c3
     by_cases c4 : x9_1 < (l0.length : Int)
     ·rw [if_pos c4] at H
      have c4b0 : decide (x9_1 < (l0.length : Int)) = true := decide_eq_true c4
      clear c4
      by_cases c5 : x3_1.length < 17592186044416
      ·rw [if_pos c5] at H
       have LMc5 := Aside0.mk c5
       clear c5
       obtain ⟨y175, hy175⟩ : ∃ y_ : List Int, y_ = (x3_1 ++ [wrap64 (x4_1 + ((rd_L1 l0 x9_1).length : Int))]) := ⟨_, rfl⟩
       replace H : (tok_Ends.l0 k1 y175 (wrap64 (x4_1 + ((rd_L1 l0 x9_1).length : Int))) l0 (l0.length : Int) (wrap64 (x9_1 + 1))) = some r := by first | (rw [hy175]; with_reducible exact H) | (have H2_ := (Option.bind_some _ _).symm.trans H; rw [hy175]; with_reducible exact H2_) | (have H2_ := (Option.bind_some _ _).symm.trans H; with_reducible exact H2_) | with_reducible exact H | (rw [hy175]; exact H) | exact H
       have Ny175 := Aside0.mk hy175
       clear hy175
       have H' := Aside0.mk H
       clear H
       have p174 : 0 ≤ (x9_1 : Int) := of_decide_eq_true (by first | (with_reducible assumption) | assumption)
       have q174 : x9_1 < (l0.length : Int) := of_decide_eq_true (by first | (with_reducible assumption) | assumption)
       obtain ⟨ad174, A174_0, c174_0, e174, hx174_0, hl174_0, hi174_0⟩ := at_L1 HR0.out x9_1 p174 q174
       cases e174
       replace hx174_0 := (HB.out.cell (World.block_lt_of_cell? w _ hx174_0)).trans hx174_0
       have HR174_0 := Aside0.mk hi174_0
       have HC174_0 := Aside0.mk hl174_0
       clear hi174_0 hl174_0
       replace p174 := eq_true p174
       replace q174 := eq_true q174
       go_wp2_with (first | ((with_reducible refine gate_builtin (b := .append) (xs := #[.tmp 17, .tmp 19]) rfl ?_); at_builtin; refine Kd.R_append (Kd.int .i64) (w0 := w) w.heap.size rfl (.tmp 17) (.tmp 19) 33 3 (.int .i64 0) 8 rfl Try.underlying33 info3 rfl (by decide) (by omega) u3 x3_1 (wrap64 (x4_1 + ((rd_L1 l0 x9_1).length : Int))) [.int .i64 (wrap64 (x4_1 + ((rd_L1 l0 x9_1).length : Int)))] (fun _ => True) (fun _ => False) rfl rfl ?aP (fun _ hk => hk.elim) ?aF ?aO ?aB ?aS ?aL ?_; (case aP => exact rfl); (case aB => exact (by repeat (first | (with_reducible first | exact HB.out | apply below_alloc | apply pw_below_drewN | apply below_drew1) | exact HB.out))); (case aF => exact (fun _ _ => trivial)); (case aO => exact (by (with_reducible repeat (first | apply Kd.R_alloc | apply Kd.R_drewN | apply Kd.R_drew)); exact HO_3.out)); (case aS => exact (below_size (by repeat (first | (with_reducible first | exact HB.out | apply below_alloc | apply pw_below_drewN | apply below_drew1) | exact HB.out)))); (case aL => have := LMc5.out; omega); intro v176 w6 ho hb hg hat; rw [← Ny175.out] at ho; have n0_ := Aside0.mk (hb); have n1_ := Aside0.mk (ho); clear HB; clear HO_3; have HB := n0_; have HO177 := n1_; clear n0_ n1_; (try clear ho); (try clear hb); (try clear hg); (try clear hat)))
       go_roundg k1
       case measure => have := HK1.out; omega
       case rel => exact ⟨(y175), (wrap64 (x4_1 + ((rd_L1 l0 x9_1).length : Int))), (wrap64 (x9_1 + 1)), (by first | rfl | (simp; done) | (simp [*]; done)), (by first | rfl | (simp; done) | (simp [*]; done)), H', ⟨by have := HK1.out; omega⟩, ⟨by (with_reducible repeat (first | apply Kd.R_alloc | apply Kd.R_drewN | apply Kd.R_drew)); exact HO177.out⟩, ⟨by repeat (first | (with_reducible first | exact HB.out | apply below_alloc | apply pw_below_drewN | apply below_drew1) | exact HB.out)⟩⟩
      ·rw [if_neg c5] at H
       exact absurd H (by simp)
     ·rw [if_neg c4] at H
      exact absurd H (by simp)
    ·rw [if_neg c3] at H
     exact absurd H (by simp)
   ·rw [if_neg c2] at H
    have c2b0 : decide (x9_1 < (l0.length : Int)) = false := decide_eq_false c2
    clear c2
    obtain rfl := Option.some.inj H
    go_wp2
    go_ret
    exact ⟨_, by first | rfl | (simp [errW_none, errW_some] <;> rfl) | (simp [*, errW_none, errW_some] <;> rfl), by (with_reducible repeat (first | apply Kd.R_alloc | apply Kd.R_drewN | apply Kd.R_drew)); exact HO_3.out, by repeat (first | (with_reducible first | exact HB.out | apply below_alloc | apply pw_below_drewN | apply below_drew1) | exact HB.out)⟩

end Go.Proofs.Ytfmkiankjibkfaa.PTokEnds
