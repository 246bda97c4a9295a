/- What the given program's functions come to, each a Lean function and the walk that shows it: no condition beside those that each theorem names. -/
import Derived.Test.YtlodaoijokfblaaPPatchKnownx0
namespace Go.Proofs.Ytlodaoijokfblaa.PPatchKnown
open Go.RowKit Go.Proofs.YtlodaoijokfblaaW.PrintWords Go.Proofs.YtlodaoijokfblaaW.PrintLast Go.Proofs.YtlodaoijokfblaaW.PrintMore
attribute [local go_sem] max2_int min2_int max_two min_two max_three min_three max_four min_four   -- for this text's walks alone
set_option linter.unusedVariables false
set_option linter.unusedSimpArgs false

/-! ### bytes_Equal: function 35 -/
def bytes_Equal.f (l0 : List Int) (l1 : List Int) : Option (Bool) := some ((strOfNums l0).toList == (strOfNums l1).toList)
set_option maxHeartbeats 8000000 in
set_option maxRecDepth 100000 in
theorem bytes_Equal.calls (A0 : Option Addr) (c0 : Nat) (l0 : List Int) (A1 : Option Addr) (c1 : Nat) (l1 : List Int) (r : Bool) (w : World) (hr0 : Kd.C (Kd.int .u8) w A0 l0.length l0) (hc0 : l0.length ≤ c0) (hr1 : Kd.C (Kd.int .u8) w A1 l1.length l1) (hc1 : l1.length ≤ c1) (h : bytes_Equal.f l0 l1 = some r) :
  Calls Try.prog 35 #[.slice A0 l0.length c0, .slice A1 l1.length c1] w fun e w' => e = .returned (.bool r) ∧ Drawn0 w w' := by
 have HR0 := Aside0.mk hr0
 have HC0 := Aside0.mk hc0
 clear hr0 hc0
 have HR1 := Aside0.mk hr1
 have HC1 := Aside0.mk hc1
 clear hr1 hc1
 have H : (some ((strOfNums l0).toList == (strOfNums l1).toList)) = some r := h
 clear h
 obtain rfl := Option.some.inj H
 have hcv3 := Kd.C_string (P := Try.prog) (A := A0) (c := c0) Try.underlying22 Try.underlying5 Try.underlying9 HR0.out
 have hcvd4 := fun nd_ => Kd.C_string (P := Try.prog) (A := A0) (c := c0) Try.underlying22 Try.underlying5 Try.underlying9 (Kd.C_drewN HR0.out nd_)
 have hcv5 := Kd.C_string (P := Try.prog) (A := A1) (c := c1) Try.underlying22 Try.underlying5 Try.underlying9 HR1.out
 have hcvd6 := fun nd_ => Kd.C_string (P := Try.prog) (A := A1) (c := c1) Try.underlying22 Try.underlying5 Try.underlying9 (Kd.C_drewN HR1.out nd_)
 go_enter Try.func35, Try.ntmps35
 go_wp2
 go_ret
 exact ⟨by first | rfl | (simp; done) | (simp [*]; done), by repeat (first | exact Drawn0.refl _ | apply Drawn0.step)⟩

theorem info22_ : (Try.prog.info? 22).map (fun i => (i.zero, i.size, i.bytes)) = some (some (.slice none 0 0), 1, 24) := by kernel_rfl
/-- Two lists of tokens, token by token. -/
theorem drewN_below {B : Nat} {a w : World} (h : Below B a w) (n : Nat) : Below B a (w.drewN n) := h.trans ⟨rfl, rfl, rfl, Nat.le_refl _, fun _ _ => rfl⟩
theorem drop_at28 {s : List S28} {j : Nat} (h : j < s.length) : s.drop j = s.getD j z28 :: s.drop (j + 1) := by
 rw [List.drop_eq_getElem_cons h]; simp [List.getD_eq_getElem?_getD, h]

/-! ### by hand: functions 34, 24 -/
def tokEqs : List (List Int) → List (List Int) → Bool
 | [], [] => true
 | x :: xs, y :: ys => ((strOfNums x).toList == (strOfNums y).toList) && tokEqs xs ys
 | _, _ => false
theorem tokEqs_at (xs ys : List (List Int)) (j : Nat) (h : j < xs.length) (h' : j < ys.length) : tokEqs (xs.drop j) (ys.drop j) = (((strOfNums (xs.getD j [])).toList == (strOfNums (ys.getD j [])).toList) && tokEqs (xs.drop (j + 1)) (ys.drop (j + 1))) := by
 rw [List.drop_eq_getElem_cons h, List.drop_eq_getElem_cons h']
 simp [tokEqs, List.getD_eq_getElem?_getD, h, h']
theorem tokEqs_len : ∀ (xs ys : List (List Int)), xs.length ≠ ys.length → tokEqs xs ys = false
 | [], [], h => absurd rfl h
 | x :: xs, y :: ys, h => by
  rw [tokEqs, tokEqs_len xs ys (by simpa using h), Bool.and_false]
 | [], _ :: _, _ => rfl
 | _ :: _, [], _ => rfl
set_option maxHeartbeats 8000000 in
theorem slices_EqualFunc.calls (A0 : Option Addr) (c0 : Nat) (l0 : List (List Int)) (A1 : Option Addr) (c1 : Nat) (l1 : List (List Int)) (w : World) (hr0 : Kd.C (Kd.slice 5 (Kd.int .u8)) w A0 l0.length l0) (hc0 : l0.length ≤ c0) (hr1 : Kd.C (Kd.slice 5 (Kd.int .u8)) w A1 l1.length l1) (hc1 : l1.length ≤ c1) :
  Calls Try.prog 34 #[.slice A0 l0.length c0, .slice A1 l1.length c1, .func (.func 35) #[] #[]] w fun e w' => e = .returned (.bool (tokEqs l0 l1)) ∧ Drawn0 w w' := by
 have HR0 := Aside0.mk hr0
 have HR1 := Aside0.mk hr1
 have hm0 := Kd.C_max hr0
 have hm1 := Kd.C_max hr1
 clear hr0 hc0 hr1 hc1
 by_cases hlen : l0.length = l1.length
 ·have hle : l0.length ≤ l1.length := by omega
  have hge : l1.length ≤ l0.length := by omega
  have hb : ((l0.length : Int) != (l1.length : Int)) = false := by simp [hlen]
  have hb2 : (l0.length != l1.length) = false := by simp [hlen]
  clear hlen
  go_enter Try.func34, Try.ntmps34
  go_wp2
  go_loopw [17] (fun v w' => ∃ j : Nat, j ≤ l0.length ∧ v = .int .i64 j ∧ Aside0 (tokEqs (l0.drop j) (l1.drop j) = tokEqs l0 l1) ∧ Drawn0 w w') (fun v _ => l0.length - (intOf v).toNat)
  case atStart => exact ⟨0, Nat.zero_le _, rfl, ⟨rfl⟩, Drawn0.refl _⟩
  case round =>
   obtain ⟨j, hj, rfl, HE, ⟨m1, rfl⟩⟩ := hrel
   by_cases hjl : j < l0.length
   ·have hjl1 : j < l1.length := by omega
    obtain ⟨ad0, B0, d0, rfl, hx0, hl0, hi0⟩ := at_L1 HR0.out (j : Int) (by omega) (by omega)
    obtain ⟨ad1, B1, d1, rfl, hx1, hl1, hi1⟩ := at_L1 HR1.out (j : Int) (by omega) (by omega)
    simp only [Int.toNat_natCast] at hx0 hx1
    have HI0 := Aside0.mk hi0
    have HI1 := Aside0.mk hi1
    have HL0 := Aside0.mk hl0
    have HL1 := Aside0.mk hl1
    have hat := tokEqs_at l0 l1 j hjl hjl1
    have e0 : rd_L1 l0 (j : Int) = l0.getD j [] := rfl
    have e1 : rd_L1 l1 (j : Int) = l1.getD j [] := rfl
    rw [← e0, ← e1, HE.out] at hat
    generalize rd_L1 l0 (j : Int) = x at hx0 HI0 HL0 hat
    generalize rd_L1 l1 (j : Int) = y at hx1 HI1 HL1 hat
    have HAT := Aside0.mk hat
    clear hi0 hi1 hl0 hl1 hat e0 e1
    generalize hq : ((strOfNums x).toList == (strOfNums y).toList) = q at HAT
    have HQ := Aside0.mk (show bytes_Equal.f x y = some q by unfold bytes_Equal.f; rw [hq])
    clear hq
    cases q with
    | true =>
     go_wp2_with (go_at_call 35; (with_reducible refine (bytes_Equal.calls _ _ x _ _ y true _ (Kd.C_drewN HI0.out _) HL0.out (Kd.C_drewN HI1.out _) HL1.out HQ.out).mono ?_); rintro e w2 ⟨rfl, ⟨m2, rfl⟩⟩)
     go_roundw
     case rel => exact ⟨j + 1, by omega, by go_num, ⟨by have h_ := HAT.out; rw [Bool.true_and] at h_; exact h_.symm⟩, (Drawn0.step (Drawn0.refl w) (m1 + m2))⟩
     case measure => simp [intOf]; omega
    | false =>
     go_wp2_with (go_at_call 35; (with_reducible refine (bytes_Equal.calls _ _ x _ _ y false _ (Kd.C_drewN HI0.out _) HL0.out (Kd.C_drewN HI1.out _) HL1.out HQ.out).mono ?_); rintro e w2 ⟨rfl, ⟨m2, rfl⟩⟩)
     go_ret
     exact ⟨by have h_ := HAT.out; rw [Bool.false_and] at h_; rw [h_]; rfl, (Drawn0.step (Drawn0.refl w) (m1 + m2))⟩
   ·go_wp2
    go_ret
    have : j = l0.length := by omega
    subst this
    refine ⟨?_, Drawn0.step (Drawn0.refl w) m1⟩
    rw [← HE.out, List.drop_of_length_le (Nat.le_refl _), List.drop_of_length_le (by omega)]
    rfl
 ·have hb : ((l0.length : Int) != (l1.length : Int)) = true := by simp; omega
  have hb2 : (l0.length != l1.length) = true := by simp [hlen]
  have he := tokEqs_len l0 l1 hlen
  rw [he]
  clear he hlen
  go_enter Try.func34, Try.ntmps34
  go_wp2
  go_ret
  exact ⟨rfl, Drawn0.refl _⟩
/-- A cut of a row that is read. -/
theorem cut_row {l : List (List Int)} {A : Option Addr} {c : Nat} (hc : l.length ≤ c) {lo hi : Nat} (h1 : lo ≤ hi) (h2 : hi ≤ l.length) :
  ∃ A' : Option Addr, (∀ W : World, (Instr.slice 23 (.slice A l.length c) (some (.int .i64 (lo : Int))) (some (.int .i64 (hi : Int))) none).run Try.prog W = .ok (.slice A' ((l.take hi).drop lo).length (c - lo)) W) ∧ ((l.take hi).drop lo).length ≤ c - lo ∧
   ∀ w : World, Kd.C (Kd.slice 5 (Kd.int .u8)) w A l.length l → Kd.C (Kd.slice 5 (Kd.int .u8)) w A' ((l.take hi).drop lo).length ((l.take hi).drop lo) := by
 obtain ⟨i0, hi0, hz0, hz1, hz2⟩ := info_parts info22_
 have hlen : ((l.take hi).drop lo).length = hi - lo := by rw [List.length_drop, List.length_take]; omega
 refine ⟨if c = lo then A else A.map (·.add (lo * 1)), fun W => ?_, by omega, fun w h => Kd.C_mid h h1 h2 hc⟩
 have h := cut_mid (P := Try.prog) 23 22 .i64 .i64 Try.underlying23 hi0 1 hz1 A l.length c (lo : Int) (hi : Int) (by omega) (by omega) (by omega) hc W
 rw [hlen]
 exact h
theorem cut_end {l : List (List Int)} {A : Option Addr} {c : Nat} (hc : l.length ≤ c) {lo : Nat} (h2 : lo ≤ l.length) :
  ∃ A' : Option Addr, (∀ W : World, (Instr.slice 23 (.slice A l.length c) (some (.int .i64 (lo : Int))) none none).run Try.prog W = .ok (.slice A' (l.drop lo).length (c - lo)) W) ∧ (l.drop lo).length ≤ c - lo ∧
   ∀ w : World, Kd.C (Kd.slice 5 (Kd.int .u8)) w A l.length l → Kd.C (Kd.slice 5 (Kd.int .u8)) w A' (l.drop lo).length (l.drop lo) := by
 obtain ⟨i0, hi0, hz0, hz1, hz2⟩ := info_parts info22_
 have hlen : (l.drop lo).length = l.length - lo := by rw [List.length_drop]
 refine ⟨if c = lo then A else A.map (·.add (lo * 1)), fun W => ?_, by omega, fun w h => Kd.C_drop h h2 hc⟩
 have h := cut_from (P := Try.prog) 23 22 .i64 Try.underlying23 hi0 1 hz1 A l.length c (lo : Int) (by omega) (by omega) W
 rw [hlen]
 exact h
def patch_stands.f (l0 l1 : List (List Int)) (a : Int) : Option Bool := if 0 ≤ a then (if a ≤ (l0.length : Int) then (if (l1.length : Int) ≤ (l0.length : Int) - a then some (tokEqs ((l0.take (a.toNat + l1.length)).drop a.toNat) l1) else some false) else some false) else none
set_option maxHeartbeats 8000000 in
theorem patch_stands.calls (A0 : Option Addr) (c0 : Nat) (l0 : List (List Int)) (A1 : Option Addr) (c1 : Nat) (l1 : List (List Int)) (a2 : Int) (r : Bool) (w : World) (hr0 : Kd.C (Kd.slice 5 (Kd.int .u8)) w A0 l0.length l0) (hc0 : l0.length ≤ c0) (hr1 : Kd.C (Kd.slice 5 (Kd.int .u8)) w A1 l1.length l1) (hc1 : l1.length ≤ c1) (h : patch_stands.f l0 l1 a2 = some r) :
  Calls Try.prog 24 #[.slice A0 l0.length c0, .slice A1 l1.length c1, .int .i64 a2] w fun e w' => e = .returned (.bool r) ∧ Drawn0 w w' := by
 have HR0 := Aside0.mk hr0
 have HR1 := Aside0.mk hr1
 have HC0 := Aside0.mk hc0
 have HC1 := Aside0.mk hc1
 have hm0 := Kd.C_max hr0
 have hm1 := Kd.C_max hr1
 clear hr0 hc0 hr1 hc1
 unfold patch_stands.f at h
 by_cases h0 : 0 ≤ a2
 ·rw [if_pos h0] at h
  obtain ⟨a, rfl⟩ := Int.eq_ofNat_of_zero_le h0
  by_cases h1 : (a : Int) ≤ (l0.length : Int)
  ·rw [if_pos h1] at h
   by_cases h2 : (l1.length : Int) ≤ (l0.length : Int) - a
   ·rw [if_pos h2, Int.toNat_natCast] at h
    obtain rfl := Option.some.inj h
    clear h
    obtain ⟨A', hcut, hcl, hC'⟩ := cut_row (A := A0) HC0.out (lo := a) (hi := a + l1.length) (by omega) (by omega)
    have HC' := Aside0.mk (hC' w HR0.out)
    have HCL := Aside0.mk hcl
    clear hC' hcl
    generalize (l0.take (a + l1.length)).drop a = y at hcut HC' HCL
    simp only [Int.natCast_add] at hcut
    have d1 : decide (a ≤ l0.length) = true := decide_eq_true (by omega)
    go_enter Try.func24, Try.ntmps24
    go_wp2_with (go_at_call 34; go_loud ((with_reducible refine (slices_EqualFunc.calls _ _ y _ _ l1 _ HC'.out HCL.out HR1.out HC1.out).mono ?_); rintro e w2 ⟨rfl, ⟨m2, rfl⟩⟩))
    go_ret
    exact ⟨rfl, Drawn0.step (Drawn0.refl w) m2⟩
   ·rw [if_neg h2] at h
    obtain rfl := Option.some.inj h
    clear h
    have d1 : decide (a ≤ l0.length) = true := decide_eq_true (by omega)
    have d2 : decide ((l1.length : Int) ≤ (l0.length : Int) - (a : Int)) = false := decide_eq_false h2
    go_enter Try.func24, Try.ntmps24
    go_wp2_with fail
    go_ret
    exact ⟨rfl, Drawn0.refl w⟩
  ·rw [if_neg h1] at h
   obtain rfl := Option.some.inj h
   clear h
   have d1 : decide (a ≤ l0.length) = false := decide_eq_false (by omega)
   go_enter Try.func24, Try.ntmps24
   go_wp2_with fail
   go_ret
   exact ⟨rfl, Drawn0.refl w⟩
 ·rw [if_neg h0] at h
  cases h

/-! ### bytes_Clone: function 36, by hand -/
/-- The cells of a row of bytes. -/
theorem cells_u8 {w : World} {a : Addr} {n : Nat} {xs : List Int} (h : Kd.C (Kd.int .u8) w (some a) n xs) : ∀ i, i < n → w.cell? (a.add i) = some (.int .u8 (xs.getD i 0)) := by
 intro i hi
 obtain ⟨ad, e, hc⟩ := (Kd.reads_of_C (d := (0 : Int)) h).2.2 (by omega)
 obtain rfl := Option.some.inj e
 exact hc i hi
theorem none_u8 {w : World} {n : Nat} {xs : List Int} (h : Kd.C (Kd.int .u8) w none n xs) : xs = [] := by
 have h := Kd.reads_of_C (d := (0 : Int)) h
 rcases Nat.eq_zero_or_pos n with h0 | h0
 ·exact List.eq_nil_of_length_eq_zero (by rw [h.1, h0])
 ·obtain ⟨ad, e, _⟩ := h.2.2 h0
  cases e
def bytes_Clone.f (l0 : List Int) : Option (List Int) := if l0.length < 140737488355328 then some l0 else none
set_option maxHeartbeats 2000000 in
set_option maxRecDepth 100000 in
theorem bytes_Clone.calls (A0 : Option Addr) (c0 : Nat) (l0 : List Int) (r : List Int) (w : World) (hr0 : Kd.C (Kd.int .u8) w A0 l0.length l0) (hc0 : l0.length ≤ c0) (h : bytes_Clone.f l0 = some r) :
  Calls Try.prog 36 #[.slice A0 l0.length c0] w fun e w' => ∃ v0_ : Value, e = .returned (v0_) ∧ Kd.R (Kd.int .u8) 5 w' w.heap.size (fun _ => True) v0_ r ∧ Below w.heap.size w w' := by
 have hl : l0.length < 140737488355328 := by
  unfold bytes_Clone.f at h; split at h <;> first | assumption | cases h
 have hr : l0 = r := by unfold bytes_Clone.f at h; rw [if_pos hl] at h; exact Option.some.inj h
 subst hr; clear h
 have q22 : ∀ (w : World) (a : Option Addr) (n c n' c' : Nat), (binOp .eql 22 (.slice a n c) (.slice none n' c')).run Try.prog w = .ok (.bool a.isNone) w := fun w a n c n' c' => Lib.run_eql_slice_nil w _ _ a n c n' c' Try.underlying22
 cases A0 with
 | none =>
  have h0 := none_u8 hr0
  subst h0
  go_enter Try.func36, Try.ntmps36
  go_wp2
  go_ret
  exact ⟨_, rfl, Kd.R_nil _ _ _ _ _, Below.refl _ _⟩
 | some a =>
  have A : Aside0 (∀ i, i < l0.length → w.cell? (a.add i) = some (.int .u8 (l0.getD i 0))) := ⟨cells_u8 hr0⟩
  clear hr0
  have u22 : ∀ w, Sem.run Try.prog (underlying 22) w = .ok (TypeDesc.slice 5) w := run_underlying Try.underlying22
  obtain ⟨i0, hi, hz0, hz1, hz2⟩ := info_parts info5
  have z5 : ∀ w, Sem.run Try.prog (Go.sizeOf 5) w = .ok 1 w := fun w => by simp [Go.sizeOf, typeInfo, hi, hz1]
  go_enter Try.func36, Try.ntmps36
  go_wp2_with (at_builtin; refine wpList_append_own _ rfl _ _ 22 rfl w.heap.size 5 i0 (.int .u8 0) 1 1 Try.underlying22 hi hz0 hz1 hz2 rfl (by decide) _ _ _ rfl (World.ownsRow_made w #[] 0 (Nat.le_refl _) (Nat.zero_le _) rfl) a l0.length c0 (l0.map (Value.int .u8)) rfl ?qc1 ?qc2 ?qc3 ?qc4 ?qc5 ?qc6 ?_)
  case qc1 => simp
  case qc2 =>
   intro j u hj
   have hjn : j < l0.length := by
    have := (List.getElem?_eq_some_iff.1 hj).1
    simp at this
    omega
   refine Lib.cell?_alloc_some _ ?_
   rw [A.out j hjn]
   have e : (l0.map (Value.int .u8))[j]? = some (Value.int .u8 (l0.getD j 0)) := by simp [List.getD, List.getElem?_eq_getElem hjn]
   rw [e] at hj
   exact hj
  case qc3 => intro u hu; obtain ⟨x, _, rfl⟩ := List.mem_map.1 hu; rfl
  case qc4 => unfold maxLen; omega
  case qc5 => omega
  case qc6 => simp
  intro v' w1 hown hgrow hnil
  go_wp2
  go_ret
  refine ⟨v', rfl, Kd.R_of_own (enc := Value.int .u8) (h1 := fun _ => rfl) (by simpa [encs] using hown) (fun _ _ => trivial), ?_⟩
  exact ((Below.refl _ w).alloc (Nat.le_refl _) _).grown hgrow (by simp) (by intro k hk; simp [Value.ownBlock] at hk; omega)

/-! ### by hand: function 25 -/
def tokOk (l : List (List Int)) : Bool := l.all fun t => decide (t.length < 140737488355328)
theorem tokOk_at {l : List (List Int)} (h : tokOk l = true) {j : Nat} (hj : j < l.length) : (l.getD j []).length < 140737488355328 := by
 have h1 := List.all_eq_true.1 h (l.getD j []) (by rw [List.getD_eq_getElem?_getD, List.getElem?_eq_getElem hj]; exact List.getElem_mem hj)
 simpa using h1
def patch_more.f (l0 l1 : List (List Int)) : Option (List (List Int)) := if l0.length + l1.length < 100000000 then (if tokOk l1 = true then some (l0 ++ l1) else none) else none
theorem take_next {l : List (List Int)} {j : Nat} (h : j < l.length) : l.take (j + 1) = l.take j ++ [l.getD j []] := by
 rw [List.take_succ_eq_append_getElem h]
 simp [List.getD_eq_getElem?_getD, h]
set_option maxHeartbeats 8000000 in
theorem patch_more.calls (B : World) (v : Value) (l0 : List (List Int)) (A1 : Option Addr) (c1 : Nat) (l1 : List (List Int)) (r : List (List Int)) (w : World) (hB : Below B.heap.size B w) (ho : Kd.R (Kd.slice 5 (Kd.int .u8)) 22 w B.heap.size (fun _ => True) v l0) (hr1 : Kd.C (Kd.slice 5 (Kd.int .u8)) B A1 l1.length l1) (hc1 : l1.length ≤ c1) (h : patch_more.f l0 l1 = some r) :
  Calls Try.prog 25 #[v, .slice A1 l1.length c1] w fun e w' => ∃ v0_ : Value, e = .returned v0_ ∧ Kd.R (Kd.slice 5 (Kd.int .u8)) 22 w' B.heap.size (fun _ => True) v0_ r ∧ Below B.heap.size B w' ∧ Kept w w' (fun k_ => some k_ = v.ownBlock) ∧ (v0_.ownBlock = v.ownBlock ∨ ∃ b, v0_.ownBlock = some b ∧ w.heap.size ≤ b) := by
 unfold patch_more.f at h
 by_cases hlen : l0.length + l1.length < 100000000
 ·rw [if_pos hlen] at h
  by_cases hall : tokOk l1 = true
  ·rw [if_pos hall] at h
   obtain rfl := Option.some.inj h
   clear h
   have HR1 := Aside0.mk hr1
   have HC1 := Aside0.mk hc1
   have HB := Aside0.mk hB
   have HO := Aside0.mk ho
   have HALL := Aside0.mk hall
   clear hr1 hc1 hB ho hall
   go_enter Try.func25, Try.ntmps25
   go_wp2
   go_loopw [0, 9] (fun s0 ix wr => ∃ (j : Nat) (vj : Value), j ≤ l1.length ∧ ix = .int .i64 j ∧ vj = s0 ∧ Aside0 (Kd.R (Kd.slice 5 (Kd.int .u8)) 22 wr B.heap.size (fun _ => True) vj (l0 ++ l1.take j)) ∧ Aside0 (Below B.heap.size B wr) ∧ Aside0 (Kept w wr (fun k_ => some k_ = v.ownBlock)) ∧ Aside0 (vj.ownBlock = v.ownBlock ∨ ∃ b, vj.ownBlock = some b ∧ w.heap.size ≤ b)) (fun _ ix _ => l1.length - (intOf ix).toNat)
   case atStart => exact ⟨0, v, Nat.zero_le _, rfl, rfl, ⟨by rw [List.take_zero, List.append_nil]; exact HO.out⟩, HB, ⟨Kept.refl _ _⟩, ⟨.inl rfl⟩⟩
   case round =>
    clear HO HB
    obtain ⟨j, vj, hj, rfl, rfl, HO, HB, HK, HAT⟩ := hrel
    by_cases hjl : j < l1.length
    ·obtain ⟨ad, At, ct, rfl, hx, hl, hi⟩ := at_L1 HR1.out (j : Int) (by omega) (by omega)
     have hi2 := Kd.C_below hi HB.out
     have hx2 := pw_cell_below HB.out hx
     simp only [Int.toNat_natCast] at hx2
     have e0 : rd_L1 l1 (j : Int) = l1.getD j [] := rfl
     have ht := tokOk_at HALL.out hjl
     have hn := take_next hjl
     rw [← e0] at ht hn
     generalize rd_L1 l1 (j : Int) = t at hx2 hi2 hl ht hn
     have HI := Aside0.mk hi2
     have HL := Aside0.mk hl
     have HT := Aside0.mk (show bytes_Clone.f t = some t by unfold bytes_Clone.f; rw [if_pos ht])
     have HNX := Aside0.mk hn
     clear hi hx hl hi2 ht hn e0
     have hlj : (l0 ++ l1.take j).length + 1 < 100000001 := by rw [List.length_append, List.length_take]; omega
     have HLJ := Aside0.mk hlj
     clear hlj
     go_wp2_with (first
      | (go_at_call 36; go_loud ((with_reducible refine (bytes_Clone.calls _ _ t t _ HI.out HL.out HT.out).mono ?_); rintro e w2 ⟨vt, rfl, ho0, hb⟩; have n0_ := Aside0.mk (below_step HB.out hb); have n1_ := Aside0.mk (Kd.R_below HO.out hb); have n2_ := Aside0.mk (HK.out.below hb); have HV := Aside0.mk (Kd.R_mono (Kd.R_lower (Kd.R_bound ho0) HB.out.size) (ok' := fun k_ => wr.heap.size ≤ k_) (fun _ hk => hk.2.1)); have HVL := Aside0.mk (Kd.R_lt HO.out); obtain ⟨Av, cv, rfl⟩ := Kd.R_slice ho0; clear HB HO HK ho0 hb; have HB := n0_; have HO := n1_; have HK := n2_; clear n0_ n1_ n2_))
      | ((with_reducible refine gate_builtin (b := .append) (xs := #[.tmp 13, .tmp 16]) rfl ?_); at_builtin; go_loud (refine Kd.R_append (Kd.slice 5 (Kd.int .u8)) (w0 := B) B.heap.size rfl (.tmp 13) (.tmp 16) 23 22 (.slice none 0 0) 24 rfl Try.underlying23 info22_ rfl (by decide) (by omega) vj (l0 ++ l1.take j) t [.slice Av t.length cv] (fun _ => True) (fun k_ => wr.heap.size ≤ k_) rfl rfl (Kd.M_row HV.out) (fun k_ hk => ⟨trivial, fun e_ => by have := HVL.out k_ e_.symm; omega⟩) (fun _ _ => trivial) HO.out HB.out HB.out.size (by have := HLJ.out; omega) ?_; intro v3 w3 ho hb hg hat; rw [List.append_assoc, ← HNX.out] at ho; have n2_ := Aside0.mk (Kept.of_grown hg HK.out (fun k_ e_ => by rcases HAT.out with h_ | ⟨b_, h_, hle_⟩; exact .inl (by rw [← h_]; exact e_.symm); exact .inr (by rw [h_] at e_; injection e_ with e_; omega))); have n3_ := Aside0.mk (show v3.ownBlock = v.ownBlock ∨ ∃ b, v3.ownBlock = some b ∧ w.heap.size ≤ b from by rcases hat with h_ | ⟨b_, h_, hle_⟩; rw [h_]; exact HAT.out; exact .inr ⟨b_, h_, Nat.le_trans HK.out.1 hle_⟩); clear HB HO HK HAT hg hat; have HB := Aside0.mk hb; have HO := Aside0.mk ho; have HK := n2_; have HAT := n3_; clear n2_ n3_ hb ho)))
     go_roundw
     case rel => exact ⟨j + 1, _, by omega, by go_num, rfl, HO, HB, HK, HAT⟩
     case measure => simp [intOf]; omega
    ·go_wp2
     go_ret
     have : j = l1.length := by omega
     subst this
     have h1 := HO.out
     rw [List.take_length] at h1
     exact ⟨_, rfl, h1, HB.out, HK.out, HAT.out⟩
  ·rw [if_neg hall] at h
   cases h
 ·rw [if_neg hlen] at h
  cases h

end Go.Proofs.Ytlodaoijokfblaa.PPatchKnown
