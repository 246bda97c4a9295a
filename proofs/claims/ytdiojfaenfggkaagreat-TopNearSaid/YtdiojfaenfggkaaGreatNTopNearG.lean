/- Functions of the given program, each a Lean function and the walk that shows it. -/
import Derived.Test.YtdiojfaenfggkaaGreatNTopNearF
import Derived.Outline
import Derived.Deep.RegionHeld3
import Derived.Deep.DeepCutAuto
import Derived.Deep.QuietTactic
import Derived.BigQuiet
import Derived.IntWalk
import Derived.Lib.SlBytesConst
namespace Go.Proofs.YtdiojfaenfggkaaGreat.PTopNear
open Go.RowKit Go.Proofs.YtdiojfaenfggkaaGreatW.PrintWords Go.Proofs.YtdiojfaenfggkaaGreatW.PrintLast Go.Proofs.YtdiojfaenfggkaaGreatW.PrintMore
attribute [local go_sem] max2_int min2_int max_two min_two max_three min_three max_four min_four
set_option linter.unusedVariables false
set_option linter.unusedSimpArgs false
theorem rd_L4_seq {n : Nat} (F : Nat → List Int) {i : Int} {p : Nat} (h : p < n) (e : i = (p : Int)) : rd_L4 (seq n F) i = F p := by
  subst e; unfold rd_L4; rw [Int.toNat_natCast, seq_getD F h]
theorem grid_table_l0 (n m : Nat) (hn : n ≤ 100000) (hm : m ≤ 100000) : ∀ (d i : Nat) (F : Nat → List Int), i + d = n + 1 → (∀ j, j < i → F j = seq (m + 1) fun _ => 0) →
    Ev (fun k => grid_table.l0 k m (seq (n + 1) F) ((n + 1 : Nat) : Int) i) (seq (n + 1) fun _ => seq (m + 1) fun _ => 0) := by
  intro d
  induction d with
  | zero =>
    intro i F hi hF
    refine Ev.step (f := fun _ => some (seq (n + 1) F)) (fun k => ?_) ?_
    · simp (disch := omega) only [grid_table.l0, if_neg]
    · rw [seq_ext (G := fun _ => seq (m + 1) fun _ => (0 : Int)) (fun j hj => hF j (by omega))]
      exact Ev.now _
  | succ d ih =>
    intro i F hi hF
    refine Ev.step (fun k => ?_) (ih (i + 1) (upd F i (seq (m + 1) fun _ => 0)) (by omega) ?_)
    · have hl := seq_length (n + 1) F
      have e : (((m : Int) + 1)).toNat = m + 1 := by omega
      simp (disch := omega) only [grid_table.l0, wr, if_pos, e, seq_const, hl, Int.toNat_natCast, seq_set]
      simp only [Int.natCast_add, Int.cast_ofNat_Int]
    · intro j hj
      by_cases h : j = i
      · subst h; rw [upd_same]
      · rw [upd_ne _ _ h]; exact hF j (by omega)
theorem grid_table_eq (n m : Nat) (hn : n ≤ 100000) (hm : m ≤ 100000) : Ev (fun k => grid_table.f k n m) (seq (n + 1) fun _ => seq (m + 1) fun _ => 0) := by
  refine Ev.congr (fun k => ?_) (grid_table_l0 n m hn hm (n + 1) 0 (fun _ => []) (by omega) (by omega))
  have e : (((n : Int) + 1)).toNat = n + 1 := by omega
  have hl := seq_length (n + 1) (fun _ => ([] : List Int))
  unfold grid_table.f
  simp (disch := omega) only [wr, if_pos, e, bs, seq_const, hl]
  rfl
theorem grid_Behind_l1 (a b : List Int) (ha : a.length ≤ 100000) (hb : b.length ≤ 100000) (r : List (List Int)) (i : Nat) (hi : i < a.length) : ∀ (j : Nat) (f : Nat → Nat → Int), j ≤ b.length →
    (∀ p q, i < p → p ≤ a.length → q ≤ b.length → f p q = T a b p q) → (∀ q, j ≤ q → q ≤ b.length → f i q = T a b i q) → (∀ p, p < i → f p b.length = 0) →
    (∀ g : Nat → Nat → Int, (∀ p q, i ≤ p → p ≤ a.length → q ≤ b.length → g p q = T a b p q) → (∀ p, p < i → g p b.length = 0) →
      Ev (fun k => grid_Behind.l0 k a b (seq (a.length + 1) fun p => seq (b.length + 1) (g p)) ((i : Int) - 1)) r) →
    Ev (fun k => grid_Behind.l1 k a b (seq (a.length + 1) fun p => seq (b.length + 1) (f p)) i ((j : Int) - 1)) r := by
  intro j
  induction j with
  | zero =>
    intro f hj h1 h2 h3 hr
    refine Ev.step (fun k => ?_) (hr f (fun p q hp hp' hq => ?_) h3)
    · simp (disch := omega) only [grid_Behind.l1, wr, if_neg]
    · by_cases h : p = i
      · subst h; exact h2 q (by omega) hq
      · exact h1 p q (by omega) hp' hq
  | succ j ih =>
    intro f hj h1 h2 h3 hr
    have l0 := seq_length (a.length + 1) fun p => seq (b.length + 1) (f p)
    have l1 : ∀ p, (seq (b.length + 1) (f p)).length = b.length + 1 := fun p => seq_length _ _
    have e1 : rd a (i : Int) = a.getD i 0 := rfl
    have e2 : rd b ((((j + 1 : Nat) : Int)) - 1) = b.getD j 0 := rd_at (by omega)
    have e3 := rd_L4_seq (n := a.length + 1) (fun p => seq (b.length + 1) (f p)) (i := (i : Int)) (p := i) (by omega) rfl
    have e4 := rd_L4_seq (n := a.length + 1) (fun p => seq (b.length + 1) (f p)) (i := (i : Int) + 1) (p := i + 1) (by omega) (by omega)
    have e5 := rd_seq (n := b.length + 1) (f (i + 1)) (i := (((j + 1 : Nat) : Int)) - 1 + 1) (p := j + 1) (by omega) (by omega)
    have e6 := rd_seq (n := b.length + 1) (f (i + 1)) (i := (((j + 1 : Nat) : Int)) - 1) (p := j) (by omega) (by omega)
    have e7 := rd_seq (n := b.length + 1) (f i) (i := (((j + 1 : Nat) : Int)) - 1 + 1) (p := j + 1) (by omega) (by omega)
    have hs := T_step (a := a) (b := b) (i := i) (j := j) hi (by omega)
    have t1 := T_le_left a b (i + 1) (j + 1)
    have v1 := h1 (i + 1) (j + 1) (by omega) (by omega) (by omega)
    have v2 := h1 (i + 1) j (by omega) (by omega) (by omega)
    have v3 := h2 (j + 1) (by omega) (by omega)
    have key : ∀ v : Int, v = T a b i j → Ev (fun k => grid_Behind.l1 k a b ((seq (a.length + 1) fun p => seq (b.length + 1) (f p)).set (i : Int).toNat ((seq (b.length + 1) (f i)).set ((((j + 1 : Nat) : Int)) - 1).toNat v)) i ((((j + 1 : Nat) : Int)) - 1 - 1)) r := by
      intro v hv
      rw [show ((((j + 1 : Nat) : Int)) - 1).toNat = j by omega, show ((((j + 1 : Nat) : Int)) - 1 - 1) = (j : Int) - 1 by omega, Int.toNat_natCast, seq_set, seq_set]
      have hg := ih (fun p => upd (fun p => f p) i (upd (f i) j v) p) (by omega) (fun p q hp hp' hq => by
        show upd (fun p => f p) i (upd (f i) j v) p q = _
        rw [upd_ne _ _ (by omega)]; exact h1 p q hp hp' hq) (fun q hq hq' => by
        show upd (fun p => f p) i (upd (f i) j v) i q = _
        rw [upd_same]
        by_cases h : q = j
        · subst h; rw [upd_same, hv]
        · rw [upd_ne _ _ h]; exact h2 q (by omega) hq') (fun p hp => by
        show upd (fun p => f p) i (upd (f i) j v) p b.length = _
        rw [upd_ne _ _ (by omega)]; exact h3 p hp) hr
      have e : (seq (a.length + 1) fun p => seq (b.length + 1) (upd (fun p => f p) i (upd (f i) j v) p)) = seq (a.length + 1) (upd (fun p => seq (b.length + 1) (f p)) i (seq (b.length + 1) (upd (f i) j v))) := by
        refine seq_ext fun p hp => ?_
        by_cases h : p = i
        · subst h; rw [upd_same, upd_same]
        · rw [upd_ne _ _ h, upd_ne _ _ h]
      rw [← e]; exact hg
    by_cases hab : a.getD i 0 = b.getD j 0
    · refine Ev.step (fun k => ?_) (key (f (i + 1) (j + 1) + 1) ?_)
      · simp (disch := omega) only [grid_Behind.l1, wr, if_pos, e1, e2, e3, e4, e5, l0, l1, if_pos hab]
      · rw [hs, if_pos hab, v1]; simp
    · refine Ev.step (fun k => ?_) (key (mx (f (i + 1) j) (f i (j + 1))) ?_)
      · simp (disch := omega) only [grid_Behind.l1, wr, if_pos, e1, e2, e3, e4, e6, e7, l0, l1]
        simp (disch := omega) only [if_neg hab, if_pos, wr]
      · rw [hs, if_neg hab, v2, v3]; unfold mx; omega
theorem grid_Behind_l0 (a b : List Int) (ha : a.length ≤ 100000) (hb : b.length ≤ 100000) : ∀ (i : Nat) (f : Nat → Nat → Int), i ≤ a.length →
    (∀ p q, i ≤ p → p ≤ a.length → q ≤ b.length → f p q = T a b p q) → (∀ p, p < i → f p b.length = 0) →
    Ev (fun k => grid_Behind.l0 k a b (seq (a.length + 1) fun p => seq (b.length + 1) (f p)) ((i : Int) - 1)) (behind a b) := by
  intro i
  induction i with
  | zero =>
    intro f hi h1 h2
    refine Ev.step (f := fun _ => some _) (fun k => ?_) (Ev.now _)
    simp (disch := omega) only [grid_Behind.l0, if_neg]
    congr 1
    exact seq_ext fun p hp => seq_ext fun q hq => h1 p q (by omega) (by omega) (by omega)
  | succ i ih =>
    intro f hi h1 h2
    refine Ev.step (fun k => ?_) (grid_Behind_l1 a b ha hb (behind a b) i (by omega) b.length f (by omega) (fun p q hp hp' hq => h1 p q (by omega) hp' hq) (fun q hq hq' => ?_) (fun p hp => h2 p (by omega)) (fun g g1 g2 => ih g (by omega) g1 g2))
    · simp (disch := omega) only [grid_Behind.l0, wr, if_pos]
      rw [show ((((i + 1 : Nat) : Int)) - 1) = (i : Int) by omega]
    · obtain rfl : q = b.length := by omega
      rw [h2 i (by omega), T_out_right (by omega)]; rfl
theorem grid_Behind_eq (a b : List Int) (ha : a.length ≤ 100000) (hb : b.length ≤ 100000) : Ev (fun k => grid_Behind.f k a b) (behind a b) := by
  unfold grid_Behind.f
  refine Ev.bind (grid_table_eq a.length b.length ha hb) ?_
  have := grid_Behind_l0 a b ha hb a.length (fun _ _ => 0) (by omega) (fun p q hp hp' hq => by rw [T_out_left (by omega)]; rfl) (fun _ _ => rfl)
  refine Ev.congr (fun k => ?_) this
  rw [wr (by omega) (by omega)]
def okPair (a b : List Int) (li lj : Int) (x : S54) : Bool := decide (0 ≤ x.f0) && decide (x.f0 < a.length) && decide (0 ≤ x.f1) && decide (x.f1 < b.length) && decide (rd a x.f0 = rd b x.f1) && decide (li < x.f0) && decide (lj < x.f1)
def good (a b : List Int) : Int → Int → List S54 → Bool
  | _, _, [] => true
  | li, lj, x :: l => okPair a b li lj x && good a b x.f0 x.f1 l
theorem okPair_iff (a b : List Int) (li lj : Int) (x : S54) : okPair a b li lj x = true ↔ 0 ≤ x.f0 ∧ x.f0 < a.length ∧ 0 ≤ x.f1 ∧ x.f1 < b.length ∧ rd a x.f0 = rd b x.f1 ∧ li < x.f0 ∧ lj < x.f1 := by
  simp [okPair, and_assoc]
theorem good_cons (a b : List Int) (li lj : Int) (x : S54) (l : List S54) : good a b li lj (x :: l) = true ↔ okPair a b li lj x = true ∧ good a b x.f0 x.f1 l = true := by simp [good]
theorem good_weaken {a b : List Int} {li lj li' lj' : Int} (hi : li' ≤ li) (hj : lj' ≤ lj) : ∀ {l : List S54}, good a b li lj l = true → good a b li' lj' l = true
  | [], _ => rfl
  | x :: l, h => by
    rw [good_cons, okPair_iff] at h ⊢
    obtain ⟨⟨h1, h2, h3, h4, h5, h6, h7⟩, h8⟩ := h
    exact ⟨⟨h1, h2, h3, h4, h5, by omega, by omega⟩, h8⟩
theorem grid_Run_l0 (a b : List Int) (ha : a.length ≤ 100000) (hb : b.length ≤ 100000) : ∀ (d i j : Nat), (a.length - i) + (b.length - j) = d → i ≤ a.length → j ≤ b.length →
    ∃ rest : List S54, good a b ((i : Int) - 1) ((j : Int) - 1) rest = true ∧ rest.length = T a b i j ∧
      ∀ l : List S54, l.length ≤ i → Ev (fun k => grid_Run.l0 k a b (behind a b) l i j) (l ++ rest, wrap64 ((a.length : Int) * (b.length : Int))) := by
  intro d
  induction d using Nat.strongRecOn with
  | ind d ih =>
    intro i j hd hi hj
    by_cases hin : i < a.length ∧ j < b.length
    · obtain ⟨hi', hj'⟩ := hin
      have l0 : (behind a b).length = a.length + 1 := seq_length _ _
      have l1 : ∀ p, (seq (b.length + 1) fun q => (T a b p q : Int)).length = b.length + 1 := fun p => seq_length _ _
      have e1 : rd a (i : Int) = a.getD i 0 := rfl
      have e2 : rd b (j : Int) = b.getD j 0 := rfl
      have e3 : rd_L4 (behind a b) (i : Int) = seq (b.length + 1) fun q => (T a b i q : Int) := rd_L4_seq _ (by omega) rfl
      have e4 : rd_L4 (behind a b) ((i : Int) + 1) = seq (b.length + 1) fun q => (T a b (i + 1) q : Int) := rd_L4_seq _ (by omega) (by omega)
      have e5 := rd_seq (n := b.length + 1) (fun q => (T a b i q : Int)) (i := (j : Int) + 1) (p := j + 1) (by omega) (by omega)
      have e6 := rd_seq (n := b.length + 1) (fun q => (T a b (i + 1) q : Int)) (i := (j : Int)) (p := j) (by omega) (by omega)
      have hs := T_step (a := a) (b := b) (i := i) (j := j) hi' hj'
      have g0 : ∀ (l : List S54) (k : Nat), grid_Run.l0 (k + 1 + 1) a b (behind a b) l i j = if a.getD i 0 = b.getD j 0 then (if l.length < 8796093022208 then grid_Run.l0 k a b (behind a b) (l ++ [⟨i, j⟩]) ((i : Int) + 1) ((j : Int) + 1) else none) else if ((T a b (i + 1) j : Nat) : Int) ≥ ((T a b i (j + 1) : Nat) : Int) then grid_Run.l0 k a b (behind a b) l ((i : Int) + 1) j else grid_Run.l0 k a b (behind a b) l i ((j : Int) + 1) := by
        intro l k
        rw [grid_Run.l0, if_pos (by omega), decide_eq_true (by omega), grid_Run.j1, itt]
        simp (disch := omega) only [wr, if_pos, e1, e2, e3, e4, e5, e6, l0, l1]
        try rfl
      have gs : ∀ (l : List S54) (c : Nat → Option (List S54 × Int)) (r : List S54 × Int), (∀ k, grid_Run.l0 (k + 1 + 1) a b (behind a b) l i j = c k) → Ev c r → Ev (fun k => grid_Run.l0 k a b (behind a b) l i j) r := by
        intro l c r h1 h2
        refine Ev.step (f := fun k => grid_Run.l0 (k + 1) a b (behind a b) l i j) (fun k => rfl) (Ev.step (f := c) h1 h2)
      by_cases hab : a.getD i 0 = b.getD j 0
      · obtain ⟨rest, h1, h2, h3⟩ := ih _ (by omega) (i + 1) (j + 1) rfl (by omega) (by omega)
        refine ⟨⟨i, j⟩ :: rest, ?_, ?_, fun l hl => ?_⟩
        · rw [good_cons, okPair_iff]
          refine ⟨⟨by simp, by simpa using hi', by simp, by simpa using hj', by simpa [rd_nat] using hab, by simp; omega, by simp; omega⟩, ?_⟩
          simpa using h1
        · rw [List.length_cons, h2, hs, if_pos hab]
        · refine gs l (fun k => grid_Run.l0 k a b (behind a b) (l ++ [⟨i, j⟩]) ((i : Int) + 1) ((j : Int) + 1)) _ (fun k => ?_) ?_
          · rw [g0, if_pos hab, if_pos (by omega)]
          · have := h3 (l ++ [⟨i, j⟩]) (by simp; omega)
            simpa using this
      · by_cases hge : ((T a b (i + 1) j : Nat) : Int) ≥ ((T a b i (j + 1) : Nat) : Int)
        · obtain ⟨rest, h1, h2, h3⟩ := ih _ (by omega) (i + 1) j rfl (by omega) (by omega)
          refine ⟨rest, good_weaken (by omega) (by omega) h1, ?_, fun l hl => ?_⟩
          · rw [h2, hs, if_neg hab]; omega
          · refine gs l (fun k => grid_Run.l0 k a b (behind a b) l ((i : Int) + 1) j) _ (fun k => ?_) ?_
            · rw [g0, if_neg hab, if_pos hge]
            · have := h3 l (by omega)
              simpa using this
        · obtain ⟨rest, h1, h2, h3⟩ := ih _ (by omega) i (j + 1) rfl (by omega) (by omega)
          refine ⟨rest, good_weaken (by omega) (by omega) h1, ?_, fun l hl => ?_⟩
          · rw [h2, hs, if_neg hab]; omega
          · refine gs l (fun k => grid_Run.l0 k a b (behind a b) l i ((j : Int) + 1)) _ (fun k => ?_) ?_
            · rw [g0, if_neg hab, if_neg hge]
            · have := h3 l (by omega)
              simpa using this
    · refine ⟨[], rfl, ?_, fun l hl => ?_⟩
      · by_cases h : i < a.length
        · rw [T_out_right (by omega)]; rfl
        · rw [T_out_left (by omega)]; rfl
      · refine Ev.step (f := fun k => grid_Run.j1 k a b (behind a b) l i j false) (fun k => ?_) (Ev.step (f := fun _ => some (l ++ [], wrap64 ((a.length : Int) * (b.length : Int)))) (fun k => ?_) (Ev.now _))
        · rw [grid_Run.l0]
          by_cases h : i < a.length
          · rw [if_pos (by omega), decide_eq_false (by omega)]
          · rw [if_neg (by omega)]
        · rw [grid_Run.j1, ift, List.append_nil]
theorem grid_Run_eq (a b : List Int) (ha : a.length ≤ 100000) (hb : b.length ≤ 100000) : ∃ l : List S54, good a b (-1) (-1) l = true ∧ l.length = lcs a b ∧ Ev (fun k => grid_Run.f k a b) (l, wrap64 ((a.length : Int) * (b.length : Int))) := by
  obtain ⟨l, h1, h2, h3⟩ := grid_Run_l0 a b ha hb _ 0 0 rfl (by omega) (by omega)
  refine ⟨l, by simpa using h1, h2, ?_⟩
  unfold grid_Run.f
  refine Ev.bind (grid_Behind_eq a b ha hb) ?_
  simpa using h3 [] (by simp)
theorem grid_Len_l1 (a b : List Int) (ha : a.length ≤ 100000) (hb : b.length ≤ 100000) (r : Int) (i : Nat) (hi : i < a.length)
    (hr : ∀ g : Nat → Int, (∀ q, q ≤ b.length → g q = T a b i q) → Ev (fun k => grid_Len.l0 k a b (seq (b.length + 1) g) ((i : Int) - 1)) r) : ∀ (j : Nat) (g : Nat → Int), j ≤ b.length →
    (∀ q, j ≤ q → q ≤ b.length → g q = T a b i q) → (∀ q, q < j → g q = T a b (i + 1) q) → Ev (fun k => grid_Len.l1 k a b (seq (b.length + 1) g) i (T a b (i + 1) j) ((j : Int) - 1)) r := by
  intro j
  induction j with
  | zero =>
    intro g hj h1 h2
    refine Ev.step (fun k => ?_) (hr g (fun q hq => h1 q (by omega) hq))
    simp (disch := omega) only [grid_Len.l1, wr, if_neg]
  | succ j ih =>
    intro g hj h1 h2
    have l1 := seq_length (b.length + 1) g
    have e1 : rd a (i : Int) = a.getD i 0 := rfl
    have e2 : rd b ((((j + 1 : Nat) : Int)) - 1) = b.getD j 0 := rd_at (by omega)
    have e3 := rd_seq (n := b.length + 1) g (i := (((j + 1 : Nat) : Int)) - 1) (p := j) (by omega) (by omega)
    have e4 := rd_seq (n := b.length + 1) g (i := (((j + 1 : Nat) : Int)) - 1 + 1) (p := j + 1) (by omega) (by omega)
    have hs := T_step (a := a) (b := b) (i := i) (j := j) hi (by omega)
    have t1 := T_le_left a b (i + 1) (j + 1)
    have v1 := h1 (j + 1) (by omega) (by omega)
    have v2 := h2 j (by omega)
    have key : ∀ v : Int, v = T a b i j → Ev (fun k => grid_Len.l1 k a b ((seq (b.length + 1) g).set ((((j + 1 : Nat) : Int)) - 1).toNat v) i (g j) ((((j + 1 : Nat) : Int)) - 1 - 1)) r := by
      intro v hv
      rw [show ((((j + 1 : Nat) : Int)) - 1).toNat = j by omega, show ((((j + 1 : Nat) : Int)) - 1 - 1) = (j : Int) - 1 by omega, seq_set, v2]
      refine ih (upd g j v) (by omega) (fun q hq hq' => ?_) (fun q hq => ?_)
      · by_cases h : q = j
        · subst h; rw [upd_same, hv]
        · rw [upd_ne _ _ h]; exact h1 q (by omega) hq'
      · rw [upd_ne _ _ (by omega)]; exact h2 q (by omega)
    by_cases hab : a.getD i 0 = b.getD j 0
    · refine Ev.step (fun k => ?_) (key (T a b (i + 1) (j + 1) + 1) ?_)
      · simp (disch := omega) only [grid_Len.l1, ifT, wr, if_pos, e1, e2, e3, e4, l1, if_pos hab]
      · rw [hs, if_pos hab]; simp
    · refine Ev.step (fun k => ?_) (key (mx (g j) (g (j + 1))) ?_)
      · simp (disch := omega) only [grid_Len.l1, ifT, wr, if_pos, e1, e2, e3, e4, l1]
        simp (disch := omega) only [if_neg hab, if_pos, wr]
      · rw [hs, if_neg hab, v1, v2]; unfold mx; omega
theorem grid_Len_l0 (a b : List Int) (ha : a.length ≤ 100000) (hb : b.length ≤ 100000) : ∀ (i : Nat) (g : Nat → Int), i ≤ a.length → (∀ q, q ≤ b.length → g q = T a b i q) →
    Ev (fun k => grid_Len.l0 k a b (seq (b.length + 1) g) ((i : Int) - 1)) (lcs a b : Int) := by
  intro i
  induction i with
  | zero =>
    intro g hi h1
    refine Ev.step (f := fun _ => some _) (fun k => ?_) (Ev.now _)
    have l1 := seq_length (b.length + 1) g
    have e3 := rd_seq (n := b.length + 1) g (i := 0) (p := 0) (by omega) (by omega)
    simp (disch := omega) only [grid_Len.l0, if_neg, if_pos, l1, e3]
    rw [h1 0 (by omega)]; rfl
  | succ i ih =>
    intro g hi h1
    refine Ev.step (fun k => ?_) (grid_Len_l1 a b ha hb _ i (by omega) (fun g' h' => ih g' (by omega) h') b.length g (by omega) (fun q hq hq' => ?_) (fun q hq => h1 q (by omega)))
    · simp (disch := omega) only [grid_Len.l0, wr, if_pos]
      rw [show ((((i + 1 : Nat) : Int)) - 1) = (i : Int) by omega, T_out_right (Nat.le_refl _)]; rfl
    · obtain rfl : q = b.length := by omega
      rw [h1 _ (by omega), T_out_right (by omega), T_out_right (by omega)]
theorem grid_Len_eq (a b : List Int) (ha : a.length ≤ 100000) (hb : b.length ≤ 100000) : Ev (fun k => grid_Len.f k a b) (lcs a b : Int) := by
  refine Ev.congr (fun k => ?_) (grid_Len_l0 a b ha hb a.length (fun _ => 0) (by omega) (fun q hq => by rw [T_out_left (by omega)]; rfl))
  have e : ((b.length : Int) + 1).toNat = b.length + 1 := by omega
  unfold grid_Len.f
  simp (disch := omega) only [wr, if_pos, e, seq_const]
def hit (a b : List Int) (want : Nat) (x y : Nat) : Prop := x < a.length ∧ y < b.length ∧ a.getD x 0 = b.getD y 0 ∧ T a b (x + 1) (y + 1) + 1 = want
def isFirst (a b : List Int) (want i j x y : Nat) : Prop := i ≤ x ∧ j ≤ y ∧ hit a b want x y ∧ ∀ x' y', i ≤ x' → j ≤ y' → (x' < x ∨ (x' = x ∧ y' < y)) → ¬ hit a b want x' y'
def isLeast (a b : List Int) : Nat → Nat → List S54 → Prop
  | i, j, [] => T a b i j = 0
  | i, j, p :: l => ∃ x y : Nat, p = ⟨x, y⟩ ∧ isFirst a b (T a b i j) i j x y ∧ isLeast a b (x + 1) (y + 1) l
theorem T_pair {a b : List Int} {x y : Nat} (hx : x < a.length) (hy : y < b.length) (e : a.getD x 0 = b.getD y 0) : T a b x y = T a b (x + 1) (y + 1) + 1 := by
  rw [T_step hx hy, if_pos e]
theorem hit_some (a b : List Int) : ∀ (d i j : Nat), (a.length - i) + (b.length - j) = d → T a b i j ≠ 0 → ∃ x y, i ≤ x ∧ j ≤ y ∧ hit a b (T a b i j) x y := by
  intro d
  induction d using Nat.strongRecOn with
  | ind d ih =>
    intro i j hd h0
    by_cases hi : i < a.length
    · by_cases hj : j < b.length
      · by_cases e : a.getD i 0 = b.getD j 0
        · exact ⟨i, j, Nat.le_refl _, Nat.le_refl _, hi, hj, e, (T_pair hi hj e).symm⟩
        · have hs := T_step hi hj
          rw [if_neg e] at hs
          by_cases hle : T a b (i + 1) j ≤ T a b i (j + 1)
          · have e2 : T a b i j = T a b i (j + 1) := by omega
            obtain ⟨x, y, h1, h2, h3⟩ := ih _ (by omega) i (j + 1) rfl (by omega)
            exact ⟨x, y, h1, by omega, by rw [e2]; exact h3⟩
          · have e2 : T a b i j = T a b (i + 1) j := by omega
            obtain ⟨x, y, h1, h2, h3⟩ := ih _ (by omega) (i + 1) j rfl (by omega)
            exact ⟨x, y, by omega, h2, by rw [e2]; exact h3⟩
      · exact absurd (T_out_right (by omega)) h0
    · exact absurd (T_out_left (by omega)) h0
theorem first_nat {P : Nat → Prop} : ∀ n, P n → ∃ m, P m ∧ ∀ k, k < m → ¬ P k := by
  intro n
  induction n using Nat.strongRecOn with
  | ind n ih =>
    intro h
    by_cases c : ∃ k, k < n ∧ P k
    · obtain ⟨k, hk, hp⟩ := c
      exact ih k hk hp
    · exact ⟨n, h, fun k hk hp => c ⟨k, hk, hp⟩⟩
theorem isFirst_ex (a b : List Int) (i j : Nat) (h : T a b i j ≠ 0) : ∃ x y, isFirst a b (T a b i j) i j x y := by
  obtain ⟨x0, y0, h1, h2, h3⟩ := hit_some a b _ i j rfl h
  obtain ⟨x, ⟨hx, y1, hy1, hh⟩, hmin⟩ := first_nat (P := fun x => i ≤ x ∧ ∃ y, j ≤ y ∧ hit a b (T a b i j) x y) x0 ⟨h1, y0, h2, h3⟩
  obtain ⟨y, ⟨hy, hh'⟩, hmin'⟩ := first_nat (P := fun y => j ≤ y ∧ hit a b (T a b i j) x y) y1 ⟨hy1, hh⟩
  refine ⟨x, y, hx, hy, hh', fun x' y' h4 h5 h6 h7 => ?_⟩
  rcases h6 with h6 | ⟨rfl, h6⟩
  · exact hmin x' h6 ⟨h4, y', h5, h7⟩
  · exact hmin' y' h6 ⟨h5, h7⟩
theorem isLeast_ex (a b : List Int) : ∀ (n i j : Nat), T a b i j = n → ∃ l : List S54, isLeast a b i j l := by
  intro n
  induction n with
  | zero => intro i j h; exact ⟨[], h⟩
  | succ n ih =>
    intro i j h
    obtain ⟨x, y, hf⟩ := isFirst_ex a b i j (by omega)
    obtain ⟨l, hl⟩ := ih (x + 1) (y + 1) (by have := hf.2.2.1.2.2.2; omega)
    exact ⟨⟨x, y⟩ :: l, x, y, rfl, hf, hl⟩
theorem isLeast_len {a b : List Int} : ∀ {l : List S54} {i j : Nat}, isLeast a b i j l → l.length = T a b i j
  | [], _, _, h => h.symm
  | p :: l, i, j, ⟨x, y, _, hf, hl⟩ => by have := isLeast_len hl; have := hf.2.2.1.2.2.2; simp; omega
theorem isLeast_good {a b : List Int} : ∀ {l : List S54} {i j : Nat}, isLeast a b i j l → good a b ((i : Int) - 1) ((j : Int) - 1) l = true
  | [], _, _, _ => rfl
  | p :: l, i, j, ⟨x, y, hp, hf, hl⟩ => by
    subst hp
    obtain ⟨h1, h2, ⟨h3, h4, h5, h6⟩, _⟩ := hf
    rw [good_cons, okPair_iff]
    refine ⟨⟨by simp, by simpa using h3, by simp, by simpa using h4, by simpa [rd_nat] using h5, by simp; omega, by simp; omega⟩, ?_⟩
    have := isLeast_good hl
    simpa using this
theorem least_next_l (a b : List Int) (ha : a.length ≤ 100000) (hb : b.length ≤ 100000) (w i j x y : Nat) (hw : w ≤ 100000) (hf : isFirst a b w i j x y) : ∀ (d p q : Nat), (x - p) * (b.length + 2) + (b.length + 1 - q) = d → i ≤ p → j ≤ q → (p < x ∨ (p = x ∧ q ≤ y)) → q ≤ b.length →
    Ev (fun k => least_next.l1 k (behind a b) a b j w p q) (x, y, true) := by
  obtain ⟨hx, hy, ⟨hx', hy', he, hT⟩, hmin⟩ := hf
  intro d
  induction d using Nat.strongRecOn with
  | ind d ih =>
    intro p q hd hp hq hpq hqb
    have l0 : (behind a b).length = a.length + 1 := seq_length _ _
    by_cases hend : q < b.length
    · have e1 : rd a (p : Int) = a.getD p 0 := rfl
      have e2 : rd b (q : Int) = b.getD q 0 := rfl
      have e3 : rd_L4 (behind a b) ((p : Int) + 1) = seq (b.length + 1) fun r => (T a b (p + 1) r : Int) := rd_L4_seq _ (p := p + 1) (by omega) (by omega)
      have l1 : (seq (b.length + 1) fun r => (T a b (p + 1) r : Int)).length = b.length + 1 := seq_length _ _
      have e4 := rd_seq (n := b.length + 1) (fun r => (T a b (p + 1) r : Int)) (i := (q : Int) + 1) (p := q + 1) (by omega) (by omega)
      have t1 := T_le_left a b (p + 1) (q + 1)
      by_cases hhere : p = x ∧ q = y
      · obtain ⟨rfl, rfl⟩ := hhere
        refine Ev.step (f := fun _ => some _) (fun k => ?_) (Ev.now _)
        simp (disch := omega) only [least_next.l1, if_pos, wr, e1, e2, e3, e4, l0, l1, if_pos he]
      · have hno := hmin p q hp hq (by omega)
        have hnext : Ev (fun k => least_next.l1 k (behind a b) a b j w p ((q : Int) + 1)) (x, y, true) := by
          have := ih _ (by rw [← hd]; omega) p (q + 1) rfl hp (by omega) (by omega) (by omega)
          simpa using this
        by_cases hab : a.getD p 0 = b.getD q 0
        · have hne : ¬ (((T a b (p + 1) (q + 1) : Nat) : Int) + 1 = (w : Int)) := fun h => hno ⟨by omega, hend, hab, by omega⟩
          refine Ev.step (fun k => ?_) hnext
          simp (disch := omega) only [least_next.l1, if_pos, wr, e1, e2, e3, e4, l0, l1, if_pos hab, if_neg hne]
        · refine Ev.step (fun k => ?_) hnext
          simp (disch := omega) only [least_next.l1, if_pos, wr, e1, e2, if_neg hab]
    ·
      have hpx : p < x := by omega
      have hm : (x - p) * (b.length + 2) = (x - (p + 1)) * (b.length + 2) + (b.length + 2) := by
        rw [show x - p = (x - (p + 1)) + 1 by omega, Nat.succ_mul]
      have hnext := ih ((x - (p + 1)) * (b.length + 2) + (b.length + 1 - j)) (by omega) (p + 1) j rfl (by omega) (Nat.le_refl _) (by omega) (by omega)
      refine Ev.step (f := fun k => least_next.l0 k (behind a b) a b j w ((p : Int) + 1)) (fun k => ?_) (Ev.step (fun k => ?_) hnext)
      · rw [least_next.l1, if_neg (by omega), wr (by omega) (by omega)]
      · rw [least_next.l0, if_pos (by omega)]
        simp
theorem least_next_some (a b : List Int) (ha : a.length ≤ 100000) (hb : b.length ≤ 100000) (i j x y : Nat) (hi : i ≤ a.length) (hj : j ≤ b.length) (hf : isFirst a b (T a b i j) i j x y) : Ev (fun k => least_next.f k (behind a b) a b i j) (x, y, true) := by
  have hT := hf.2.2.1.2.2.2
  have hx := hf.2.2.1.1
  have hy := hf.2.2.1.2.1
  have l0 : (behind a b).length = a.length + 1 := seq_length _ _
  have e3 : rd_L4 (behind a b) (i : Int) = seq (b.length + 1) fun r => (T a b i r : Int) := rd_L4_seq _ (p := i) (by omega) rfl
  have l1 : (seq (b.length + 1) fun r => (T a b i r : Int)).length = b.length + 1 := seq_length _ _
  have e4 := rd_seq (n := b.length + 1) (fun r => (T a b i r : Int)) (i := (j : Int)) (p := j) (by omega) rfl
  have t1 := T_le_left a b i j
  have := least_next_l a b ha hb (T a b i j) i j x y (by omega) hf _ i j rfl (Nat.le_refl _) (Nat.le_refl _) (by have := hf.1; have := hf.2.1; omega) hj
  refine Ev.congr (f := fun k => least_next.l0 k (behind a b) a b j (T a b i j : Nat) i) (fun k => ?_) (Ev.step (fun k => ?_) this)
  · unfold least_next.f
    simp (disch := omega) only [if_pos, if_neg, e3, e4, l0, l1]
  · rw [least_next.l0, if_pos (by have := hf.1; omega)]
theorem least_next_none (a b : List Int) (i j : Nat) (hi : i ≤ a.length) (hj : j ≤ b.length) (h : T a b i j = 0) (k : Nat) : least_next.f k (behind a b) a b i j = some (0, 0, false) := by
  have l0 : (behind a b).length = a.length + 1 := seq_length _ _
  have e3 : rd_L4 (behind a b) (i : Int) = seq (b.length + 1) fun r => (T a b i r : Int) := rd_L4_seq _ (p := i) (by omega) rfl
  have l1 : (seq (b.length + 1) fun r => (T a b i r : Int)).length = b.length + 1 := seq_length _ _
  have e4 := rd_seq (n := b.length + 1) (fun r => (T a b i r : Int)) (i := (j : Int)) (p := j) (by omega) rfl
  unfold least_next.f
  simp (disch := omega) only [if_pos, e3, e4, l0, l1]
theorem least_Of_l0 (a b : List Int) (ha : a.length ≤ 100000) (hb : b.length ≤ 100000) : ∀ (l : List S54) (i j : Nat) (acc : List S54), i ≤ a.length → j ≤ b.length → acc.length ≤ i → isLeast a b i j l →
    Ev (fun k => least_Of.l0 k a b (behind a b) acc i j) (acc ++ l)
  | [], i, j, acc, hi, hj, hacc, h => by
    refine Ev.step (f := fun _ => some _) (fun k => ?_) (Ev.now _)
    rw [least_Of.l0, least_next_none a b i j hi hj h, bs, ift, List.append_nil]
  | p :: l, i, j, acc, hi, hj, hacc, ⟨x, y, hp, hf, hl⟩ => by
    subst hp
    have hx := hf.2.2.1.1
    have hy := hf.2.2.1.2.1
    have ih := least_Of_l0 a b ha hb l (x + 1) (y + 1) (acc ++ [⟨x, y⟩]) (by omega) (by omega) (by simp; have := hf.1; omega) hl
    have hn := least_next_some a b ha hb i j x y hi hj hf
    rw [List.append_assoc, List.singleton_append] at ih
    refine Ev.step (fun k => rfl) (Ev.bind hn ?_)
    refine Ev.congr (fun k => ?_) ih
    rw [itt, if_pos (by omega), wr (x := (x : Int) + 1) (by omega) (by omega), wr (x := (y : Int) + 1) (by omega) (by omega)]
    simp
theorem least_Of_eq (a b : List Int) (ha : a.length ≤ 100000) (hb : b.length ≤ 100000) (l : List S54) (h : isLeast a b 0 0 l) : Ev (fun k => least_Of.f k a b) l := by
  unfold least_Of.f
  refine Ev.bind (grid_Behind_eq a b ha hb) ?_
  simpa using least_Of_l0 a b ha hb l 0 0 [] (by omega) (by omega) (by simp) h
end Go.Proofs.YtdiojfaenfggkaaGreat.PTopNear
namespace Go.Proofs.YtdiojfaenfggkaaGreat.PTopNear
open Go.RowKit Go.Proofs.YtdiojfaenfggkaaGreatW.PrintWords Go.Proofs.YtdiojfaenfggkaaGreatW.PrintLast Go.Proofs.YtdiojfaenfggkaaGreatW.PrintMore
attribute [local go_sem] max2_int min2_int max_two min_two max_three min_three max_four min_four
set_option linter.unusedVariables false
set_option linter.unusedSimpArgs false
theorem good_nat (a b : List Int) : ∀ (l : List S54) (i j : Int), good a b i j l = true → ∃ qs : List (Nat × Nat), l = qs.map toP ∧ (∀ q ∈ qs, q.1 < a.length ∧ q.2 < b.length ∧ rd a q.1 = rd b q.2 ∧ i < q.1 ∧ j < q.2) ∧ qs.Pairwise (fun x y => x.1 < y.1 ∧ x.2 < y.2)
  | [], _, _, _ => ⟨[], rfl, (fun q h => by cases h), List.Pairwise.nil⟩
  | x :: l, i, j, h => by
    rw [good_cons, okPair_iff] at h
    obtain ⟨⟨h1, h2, h3, h4, h5, h6, h7⟩, h8⟩ := h
    obtain ⟨qs, e, hq, hp⟩ := good_nat a b l _ _ h8
    obtain ⟨p, hp'⟩ := Int.eq_ofNat_of_zero_le h1
    obtain ⟨q, hq'⟩ := Int.eq_ofNat_of_zero_le h3
    refine ⟨(p, q) :: qs, ?_, fun y hy => ?_, List.Pairwise.cons (fun y hy => ?_) hp⟩
    · rw [e]; simp only [List.map_cons]; congr 1
      cases x
      simp only at hp' hq'
      rw [hp', hq']; rfl
    · rcases List.mem_cons.mp hy with rfl | hy
      · rw [hp', hq'] at h5
        exact ⟨by omega, by omega, h5, by omega, by omega⟩
      · obtain ⟨a1, a2, a3, a4, a5⟩ := hq y hy
        exact ⟨a1, a2, a3, by omega, by omega⟩
    · obtain ⟨_, _, _, a4, a5⟩ := hq y hy
      simp only; omega
theorem goodN_of {a b : List Int} {l : List S54} (h : good a b (-1) (-1) l = true) : ∃ qs, l = qs.map toP ∧ GoodN a b qs := by
  obtain ⟨qs, h1, h2, h3⟩ := good_nat a b l _ _ h
  exact ⟨qs, h1, ⟨fun q hq => ⟨(h2 q hq).1, (h2 q hq).2.1, (h2 q hq).2.2.1⟩, h3⟩⟩
set_option maxHeartbeats 4000000 in
set_option maxRecDepth 100000 in
theorem canon_Of.calls (A0 A1 A2 : Option Addr) (c0 c1 c2 : Nat) (a b : List Int) (qs : List (Nat × Nat)) (w : World) (hr0 : Kd.C (Kd.int .i64) w A0 a.length a) (hc0 : a.length ≤ c0) (hr1 : Kd.C (Kd.int .i64) w A1 b.length b) (hc1 : b.length ≤ c1) (hr2 : Kd.C k54 w A2 qs.length (qs.map toP)) (hg : GoodN a b qs) (hl : qs.length = lcs a b) (ha : a.length ≤ 1000) (hb : b.length ≤ 1000) :
    Calls Tryz.prog 41 #[.slice A0 a.length c0, .slice A1 b.length c1, .slice A2 qs.length c2] w fun e w' => ∃ v ls, e = .returned (.tuple #[v, .int .i64 0]) ∧ isLeast a b 0 0 (ls.map toP) ∧ GoodN a b ls ∧ ls.length = lcs a b ∧ Kd.R k54 54 w' w.heap.size (fun _ => True) v (ls.map toP) ∧ Below w.heap.size w w' := by
  obtain ⟨l, hlst⟩ := isLeast_ex a b (T a b 0 0) 0 0 rfl
  obtain ⟨ls, hls, hgl⟩ := goodN_of (isLeast_good hlst)
  have hlen := isLeast_len hlst
  rw [T_zero, hls, List.length_map] at hlen
  obtain ⟨K1, hK1⟩ := least_Of_eq a b (by omega) (by omega) l hlst
  obtain ⟨K2, hK2⟩ := grid_Len_eq a b (by omega) (by omega)
  have HL1 := Aside0.mk (hK1 K1 (Nat.le_refl _))
  have HL2 := Aside0.mk (hK2 K2 (Nat.le_refl _))
  simp only at HL1 HL2
  rw [hls] at HL1 hlst
  have hlb := lcs_le_left a b
  have HG := Aside0.mk (fun W (hb' : Below w.heap.size w W) => pairs_Good.good A0 A1 A2 c0 c1 c2 a b qs W (Kd.C_below hr0 hb') hc0 (Kd.C_below hr1 hb') hc1 (Kd.C_below hr2 hb') hg (by omega) ha hb)
  have H0 := Aside0.mk hr0
  have H1 := Aside0.mk hr1
  have HC0 := Aside0.mk hc0
  have HC1 := Aside0.mk hc1
  have HRS := Aside0.mk (And.intro hlst (And.intro hgl hlen))
  have t1 : decide ((qs.length : Int) < (lcs a b : Int)) = false := decide_eq_false (by omega)
  have t2 : decide (qs.length < lcs a b) = false := decide_eq_false (by omega)
  clear hK1 hK2 hls hlst hgl hlen hr0 hr1 hr2 hc0 hc1 hg hl hlb
  go_enter Tryz.func41, Tryz.ntmps41
  go_wp2_with (first
    | (go_at_call 77; ((with_reducible refine (HG.out _ (Below.refl _ _)).mono ?_); rintro e w1 ⟨rfl, hb⟩; have HB := Aside0.mk hb; clear hb))
    | (go_at_call 78; ((with_reducible refine (grid_Len.calls K2 A0 c0 a A1 c1 b _ _ (Kd.C_below H0.out HB.out) HC0.out (Kd.C_below H1.out HB.out) HC1.out HL2.out).mono ?_); rintro e w2 ⟨rfl, hb⟩; have n0_ := Aside0.mk (below_step HB.out hb); clear HB hb; have HB := n0_; clear n0_))
    | (go_at_call 79; ((with_reducible refine (least_Of.calls K1 A0 c0 a A1 c1 b _ _ (Kd.C_below H0.out HB.out) HC0.out (Kd.C_below H1.out HB.out) HC1.out HL1.out).mono ?_); rintro e w3 ⟨v, rfl, ho, hb⟩; have HO := Aside0.mk ho; have HB3 := Aside0.mk hb; clear ho hb)))
  go_ret2
  exact ⟨v, ls, rfl, HRS.out.1, HRS.out.2.1, HRS.out.2.2, Kd.R_lower HO.out HB.out.size, below_step HB.out HB3.out⟩
end Go.Proofs.YtdiojfaenfggkaaGreat.PTopNear
namespace Go.Proofs.YtdiojfaenfggkaaGreat.PTopNear
open Go.RowKit Go.Proofs.YtdiojfaenfggkaaGreatW.PrintWords Go.Proofs.YtdiojfaenfggkaaGreatW.PrintLast Go.Proofs.YtdiojfaenfggkaaGreatW.PrintMore
attribute [local go_sem] max2_int min2_int max_two min_two max_three min_three max_four min_four
set_option linter.unusedVariables false
set_option linter.unusedSimpArgs false
def kT : Kd (List Int) := Kd.slice 5 (Kd.int .u8)
theorem inf22k : (Tryz.prog.info? 22).map (fun i => (i.zero, i.size, i.bytes)) = some (some (.slice none 0 0), kT.sz, 24) := by kernel_rfl
set_option maxHeartbeats 8000000 in
set_option maxRecDepth 100000 in
theorem edit_tokens.calls (A : Option Addr) (c : Nat) (vs : List Value) (l : List (List Int)) (w : World) (hV : Vals w vs l) (hc : CellsAt w A vs) (hl : l.length ≤ 1000) (ht : ∀ t, t ∈ l → t.length < 140737488355328) :
    Calls Tryz.prog 82 #[.slice A vs.length c] w fun e w' => ∃ v, e = .returned v ∧ kT.R 22 w' w.heap.size (fun _ => True) v l ∧ Below w.heap.size w w' := by
  have hvl : vs.length ≤ 1000 := by have := hV.1; omega
  have HVL := Aside0.mk hV.1
  have HV := Aside0.mk hV
  have HC := Aside0.mk hc
  have HTT := Aside0.mk ht
  clear hV hc ht
  go_enter Tryz.func82, Tryz.ntmps82
  go_wp2_with fail
  go_loopw [8, 3] (fun v8 v3 wr => ∃ i : Nat, i ≤ vs.length ∧ v8 = .int .i64 i ∧ Aside0 (Below w.heap.size w wr) ∧ Aside0 (kT.R 22 wr w.heap.size (fun _ => True) v3 (l.take i))) (fun v8 _ _ => vs.length - (intOf v8).toNat)
  case atStart => exact ⟨0, by omega, rfl, ⟨Below.refl _ _⟩, ⟨Kd.R_nil _ _ _ _ _⟩⟩
  case round =>
    obtain ⟨i, hi, rfl, HB, HO⟩ := hrel
    by_cases hlt : i < vs.length
    · obtain ⟨t, ht⟩ : ∃ t, l[i]? = some t := ⟨_, List.getElem?_eq_getElem (by have := HVL.out; omega)⟩
      obtain ⟨A1, c1, a1, a2, a3⟩ := HV.out.2 i t ht
      obtain ⟨ad, rfl, hz1⟩ := HC.out i _ a1
      have hz1 := pw_cell_below HB.out hz1
      have HA := Aside0.mk (And.intro a2 (Kd.C_below a3 HB.out))
      have HTK := Aside0.mk (show l.take (i + 1) = l.take i ++ [t] by rw [List.take_add_one, ht]; rfl)
      have HCL := Aside0.mk (show bytes_Clone.f t = some t by unfold bytes_Clone.f; rw [if_pos (HTT.out t (List.mem_of_getElem? ht))])
      have HLL := Aside0.mk (show (l.take i).length ≤ 1000 by rw [List.length_take]; omega)
      clear a1 a2 a3 ht
      have gl : decide ((i : Int) < (vs.length : Int)) = true := decide_eq_true (by omega)
      have gl2 : decide (i < vs.length) = true := decide_eq_true hlt
      have gi0 : (0 : Int) ≤ (i : Int) := by omega
      have gi1 : (i : Int) < (vs.length : Int) := by omega
      have hs := HB.out.size
      go_wp2_with (first
        | (go_at_call 101; ((with_reducible refine (bytes_Clone.calls A1 c1 t t _ HA.out.2 HA.out.1 HCL.out).mono ?_); rintro e w5 ⟨v5, rfl, hv, hb⟩; obtain ⟨A5, c5, rfl⟩ := Kd.R_slice hv; have HN := Aside0.mk (show ∀ k, u3.ownBlock = some k → k < wr.heap.size from fun k hk => Kd.R_lt HO.out k hk); have HM5 := Aside0.mk (show kT.M w5 w.heap.size (fun k => some k ≠ u3.ownBlock) t [.slice A5 t.length c5] from ⟨_, rfl, Kd.R_lower (Kd.R_mono (Kd.R_bound hv) (fun k hk e => by have h1 := HN.out k e.symm; have h2 := hk.2.1; omega)) hs⟩); have HB5 := Aside0.mk (below_step HB.out hb); have HO5 := Aside0.mk (Kd.R_below HO.out hb); have hs5 := HB5.out.size; clear HB HO hv hb))
        | ((with_reducible refine gate_builtin (b := .append) (xs := #[.tmp 12, .tmp 15]) rfl ?_); refine Kd.R_append kT (w0 := w) w.heap.size rfl (.tmp 12) (.tmp 15) 60 22 (.slice none 0 0) 24 rfl Tryz.underlying60 inf22k rfl (by decide) (by omega) u3 (l.take i) t [.slice A5 t.length c5] (fun _ => True) (fun k => some k ≠ u3.ownBlock) rfl rfl HM5.out (fun _ hk => ⟨trivial, hk⟩) (fun _ _ => trivial) HO5.out HB5.out hs5 (by have := HLL.out; omega) ?_; intro v6 w6 ho hb hg hat; have HO6 := Aside0.mk ho; have HB6 := Aside0.mk hb; clear ho hb hg hat))
      go_roundw
      case rel => exact ⟨i + 1, by omega, by go_num, HB6, ⟨by rw [HTK.out]; exact HO6.out⟩⟩
      case measure => simp [intOf]; omega
    · obtain rfl : i = vs.length := by omega
      have hge : decide ((vs.length : Int) < (vs.length : Int)) = false := decide_eq_false (by omega)
      have HTL := Aside0.mk (show l.take vs.length = l by rw [HVL.out]; exact List.take_length)
      rw [HTL.out] at HO
      go_wp2_with fail
      go_ret
      exact ⟨_, rfl, HO.out, HB.out⟩
end Go.Proofs.YtdiojfaenfggkaaGreat.PTopNear
namespace Go.Proofs.YtdiojfaenfggkaaGreat.PTopNear
open Go.RowKit Go.Proofs.YtdiojfaenfggkaaGreatW.PrintWords Go.Proofs.YtdiojfaenfggkaaGreatW.PrintLast Go.Proofs.YtdiojfaenfggkaaGreatW.PrintMore
attribute [local go_sem] max2_int min2_int max_two min_two max_three min_three max_four min_four
set_option linter.unusedVariables false
set_option linter.unusedSimpArgs false
theorem own_below' {w w1 : World} {base : Nat} {e : TypeId} {size n : Nat} {v : Value} {xs : List Value} (h : w.ownsRow base e size v n xs) (hb : Below w.heap.size w w1) : w1.ownsRow base e size v n xs := by
  obtain ⟨h1, h2⟩ := h
  refine ⟨h1, ?_⟩
  rcases h2 with h2 | ⟨g, cap, cur, rfl, hg, hh, r⟩
  · exact .inl h2
  · exact .inr ⟨g, cap, cur, rfl, hg, blk_below hh hb, r⟩
theorem own_set' {w : World} {base : Nat} {e : TypeId} {size n : Nat} {v : Value} {xs : List Value} (h : w.ownsRow base e size v n xs) {g : Nat} {t : TypeId} {cs : Array Value} (hg : w.heap[g]? = some (.cells cs t (0, 0))) (ht : e ≠ t) (u : Value) : (w.setCell ⟨g, 0, none⟩ u).ownsRow base e size v n xs := by
  refine own_setCell h (fun e' => ?_) u
  obtain ⟨_, h2⟩ := h
  rcases h2 with ⟨rfl, _⟩ | ⟨g', cap, cur, rfl, _, hh, _⟩
  · simp [Value.ownBlock] at e'
  · simp only [Value.ownBlock] at e'
    injection e' with e'
    exact blk_ne hh hg ht e'.symm
structure MI (w0 W : World) (pi pj ps pa pb : Nat) (va vb v r : Value) (i j m : Nat) : Prop where
  B : Below w0.heap.size w0 W
  hi : w0.heap.size ≤ pi
  hj : w0.heap.size ≤ pj
  hs : w0.heap.size ≤ ps
  ne : pi ≠ pj
  I : W.heap[pi]? = some (.cells #[.int .i64 (i : Int)] 3 (0, 0))
  J : W.heap[pj]? = some (.cells #[.int .i64 (j : Int)] 3 (0, 0))
  S : W.heap[ps]? = some (.cells #[v] 33 (0, 0))
  A : W.heap[pa]? = some (.cells #[va] 60 (0, 0))
  Bb : W.heap[pb]? = some (.cells #[vb] 60 (0, 0))
  O : ∃ n xs, W.ownsRow w0.heap.size 99 3 r n xs ∧ n ≤ m
namespace MI
variable {w0 W W' : World} {pi pj ps pa pb i j m : Nat} {va vb v r : Value}
theorem below (h : MI w0 W pi pj ps pa pb va vb v r i j m) (hb : Below W.heap.size W W') : MI w0 W' pi pj ps pa pb va vb v r i j m :=
  ⟨below_step h.B hb, h.hi, h.hj, h.hs, h.ne, blk_below h.I hb, blk_below h.J hb, blk_below h.S hb, blk_below h.A hb, blk_below h.Bb hb, by obtain ⟨n, xs, h1, h2⟩ := h.O; exact ⟨n, xs, own_below' h1 hb, h2⟩⟩
theorem drew (h : MI w0 W pi pj ps pa pb va vb v r i j m) : MI w0 W.drew pi pj ps pa pb va vb v r i j m := h.below (below_drew (Below.refl _ _))
theorem drewN (h : MI w0 W pi pj ps pa pb va vb v r i j m) (n : Nat) : MI w0 (W.drewN n) pi pj ps pa pb va vb v r i j m := h.below (pw_below_drewN (Below.refl _ _) n)
theorem alloc (h : MI w0 W pi pj ps pa pb va vb v r i j m) (o : Obj) : MI w0 (W.alloc o) pi pj ps pa pb va vb v r i j m := h.below (below_alloc (Below.refl _ _) o)
theorem cells (h : MI w0 W pi pj ps pa pb va vb v r i j m) : W.cell? ⟨ps, 0, none⟩ = some v ∧ W.cell? ⟨pi, 0, none⟩ = some (.int .i64 (i : Int)) ∧ W.cell? ⟨pa, 0, none⟩ = some va ∧ W.cell? ⟨pb, 0, none⟩ = some vb ∧ W.cell? ⟨pj, 0, none⟩ = some (.int .i64 (j : Int)) :=
  ⟨blk_cell h.S 0, blk_cell h.I 0, blk_cell h.A 0, blk_cell h.Bb 0, blk_cell h.J 0⟩
theorem frozen (h : MI w0 W pi pj ps pa pb va vb v r i j m) : W.frozen? ⟨ps, 0, none⟩ = false ∧ W.frozen? ⟨pi, 0, none⟩ = false ∧ W.frozen? ⟨pj, 0, none⟩ = false :=
  ⟨blk_frozen h.S 0, blk_frozen h.I 0, blk_frozen h.J 0⟩
theorem setS (h : MI w0 W pi pj ps pa pb va vb v r i j m) (u : Value) : MI w0 (W.setCell ⟨ps, 0, none⟩ u) pi pj ps pa pb va vb u r i j m :=
  ⟨below_set h.B h.hs, h.hi, h.hj, h.hs, h.ne, blk_far h.I (blk_ne h.I h.S (by decide)) _, blk_far h.J (blk_ne h.J h.S (by decide)) _, by simpa using blk_set h.S 0 u, blk_far h.A (blk_ne h.A h.S (by decide)) _, blk_far h.Bb (blk_ne h.Bb h.S (by decide)) _, by obtain ⟨n, xs, h1, h2⟩ := h.O; exact ⟨n, xs, own_set' h1 h.S (by decide) _, h2⟩⟩
theorem setI (h : MI w0 W pi pj ps pa pb va vb v r i j m) (k : Nat) : MI w0 (W.setCell ⟨pi, 0, none⟩ (.int .i64 (k : Int))) pi pj ps pa pb va vb v r k j m :=
  ⟨below_set h.B h.hi, h.hi, h.hj, h.hs, h.ne, by simpa using blk_set h.I 0 (.int .i64 (k : Int)), blk_far h.J (fun e => h.ne e.symm) _, blk_far h.S (blk_ne h.S h.I (by decide)) _, blk_far h.A (blk_ne h.A h.I (by decide)) _, blk_far h.Bb (blk_ne h.Bb h.I (by decide)) _, by obtain ⟨n, xs, h1, h2⟩ := h.O; exact ⟨n, xs, own_set' h1 h.I (by decide) _, h2⟩⟩
theorem setJ (h : MI w0 W pi pj ps pa pb va vb v r i j m) (k : Nat) : MI w0 (W.setCell ⟨pj, 0, none⟩ (.int .i64 (k : Int))) pi pj ps pa pb va vb v r i k m :=
  ⟨below_set h.B h.hj, h.hi, h.hj, h.hs, h.ne, blk_far h.I (fun e => h.ne e) _, by simpa using blk_set h.J 0 (.int .i64 (k : Int)), blk_far h.S (blk_ne h.S h.J (by decide)) _, blk_far h.A (blk_ne h.A h.J (by decide)) _, blk_far h.Bb (blk_ne h.Bb h.J (by decide)) _, by obtain ⟨n, xs, h1, h2⟩ := h.O; exact ⟨n, xs, own_set' h1 h.J (by decide) _, h2⟩⟩
theorem up (h : MI w0 W pi pj ps pa pb va vb v r i j m) {m' : Nat} (hm : m ≤ m') : MI w0 W pi pj ps pa pb va vb v r i j m' :=
  ⟨h.B, h.hi, h.hj, h.hs, h.ne, h.I, h.J, h.S, h.A, h.Bb, by obtain ⟨n, xs, h1, h2⟩ := h.O; exact ⟨n, xs, h1, Nat.le_trans h2 hm⟩⟩
theorem form (h : MI w0 W pi pj ps pa pb va vb v r i j m) : ∃ A n c, r = .slice A n c := by
  obtain ⟨n, xs, ⟨_, ho⟩, _⟩ := h.O
  rcases ho with ⟨rfl, _⟩ | ⟨g, cap, cur, rfl, _⟩
  · exact ⟨none, 0, 0, rfl⟩
  · exact ⟨_, _, _, rfl⟩
theorem inf99_ : (Tryz.prog.info? 99).map (fun i => (i.zero, i.size, i.bytes)) = some (some (.agg #[.int .i64 0, .slice none 0 0, .slice none 0 0]), 3, 56) := by kernel_rfl
theorem push (h : MI w0 W pi pj ps pa pb va vb v r i j m) (hm : m ≤ 1000) {q : Nat} {c0 c1 c2 : Value} {t : TypeId} (h1 : ∀ u ∈ [c0, c1, c2], u.oneCell' = true) (hq : W.heap[q]? = some (.cells #[c0, c1, c2] t (0, 0))) (ty : TypeId) :
    ∃ r' W', (Builtin.append_ #[33, 33] ty #[r, .slice (some ⟨q, 0, none⟩) 1 1]).run Tryz.prog W = .ok r' W' ∧ MI w0 W' pi pj ps pa pb va vb v r' i j (m + 1) := by
  obtain ⟨n, xs, ho, hn⟩ := h.O
  obtain ⟨i0, hi, hz0, hz1, hz2⟩ := info_parts inf99_
  have hnews : ∀ j u, ([c0, c1, c2] : List Value)[j]? = some u → W.cell? ((⟨q, 0, none⟩ : Addr).add j) = some u := fun j u hj => by
    rw [add_plain]
    exact (blk_cell hq j).trans (by simpa using hj)
  obtain ⟨v', W', hr, h2, h3, _, h5⟩ := run_append_own_at (P := Tryz.prog) W w0.heap.size 33 ty 99 i0 (.agg #[.int .i64 0, .slice none 0 0, .slice none 0 0]) 3 56 Tryz.underlying33 hi hz0 hz1 hz2 rfl (by decide) r n xs ho ⟨q, 0, none⟩ 1 1 [c0, c1, c2] rfl hnews h1 (by unfold maxLen; omega) (by omega) h.B.size
  have hne : ∀ {g : Nat} {t : TypeId} {cs : Array Value}, W.heap[g]? = some (.cells cs t (0, 0)) → (99 : TypeId) ≠ t → some g ≠ r.ownBlock := fun {g t cs} hg ht e => by
    obtain ⟨_, k⟩ := ho
    rcases k with ⟨rfl, _⟩ | ⟨g', cap, cur, rfl, _, hh, _⟩
    · simp [Value.ownBlock] at e
    · simp only [Value.ownBlock] at e
      injection e with e
      exact blk_ne hh hg ht e.symm
  exact ⟨v', W', hr, h.B.grown h3 h.B.size (own_base ho), h.hi, h.hj, h.hs, h.ne, blk_grown h.I h3 (hne h.I (by decide)), blk_grown h.J h3 (hne h.J (by decide)), blk_grown h.S h3 (hne h.S (by decide)), blk_grown h.A h3 (hne h.A (by decide)), blk_grown h.Bb h3 (hne h.Bb (by decide)), n + 1, _, h2, by omega⟩
end MI
set_option maxRecDepth 100000 in
theorem vals_cut (A : Option Addr) (c : Nat) (vs : List Value) (a b : Nat) (h1 : a ≤ b) (hm : b ≤ vs.length) (hc : vs.length ≤ c) (hs : vs.length ≤ 1000) :
    ∃ A' : Option Addr, (∀ W : World, (Instr.slice 60 (.slice A vs.length c) (some (.int .i64 (a : Int))) (some (.int .i64 (b : Int))) none).run Tryz.prog W = .ok (.slice A' ((vs.take b).drop a).length (c - a)) W) ∧ ∀ w : World, CellsAt w A vs → CellsAt w A' ((vs.take b).drop a) := by
  obtain ⟨i0, hi, _, hz, _⟩ := info_parts inf22k
  obtain ⟨A', h2, h3, _⟩ := print_mid_of (P := Tryz.prog) (id : Value → Value) (.slice none 0 0) 60 22 .i64 .i64 Tryz.underlying60 hi hz A c vs (a : Int) (b : Int) (by omega) (by omega) (by omega) hc
  refine ⟨A', fun W => by simpa using h2 W, fun w h => ?_⟩
  have hr : ReadsOf (id : Value → Value) (.slice none 0 0) w A vs.length vs := ⟨rfl, by omega, fun h0 => by
    obtain ⟨ad, e, _⟩ := h 0 _ (List.getElem?_eq_getElem h0)
    refine ⟨ad, e, fun j hj => ?_⟩
    obtain ⟨ad', e', h'⟩ := h j _ (List.getElem?_eq_getElem hj)
    rw [e] at e'
    injection e' with e'
    subst e'
    rw [h', List.getD_eq_getElem?_getD, List.getElem?_eq_getElem hj]
    rfl⟩
  have h4 := h3 w hr
  simp only [Int.toNat_natCast] at h4
  intro q u hq
  have hq' := (List.getElem?_eq_some_iff.1 hq).1
  obtain ⟨ad, e, h5⟩ := h4.2.2 (by omega)
  refine ⟨ad, e, ?_⟩
  rw [h5 q hq', List.getD_eq_getElem?_getD, hq]
  rfl
theorem Vals.drop {w : World} {vs : List Value} {l : List (List Int)} (h : Vals w vs l) (k : Nat) : Vals w (vs.drop k) (l.drop k) := by
  refine ⟨by rw [List.length_drop, List.length_drop, h.1], fun i t hi => ?_⟩
  rw [List.getElem?_drop] at hi ⊢
  exact h.2 _ t hi
set_option maxHeartbeats 8000000 in
set_option maxRecDepth 100000 in
theorem edit_hunk.calls (w0 w : World) (pi pj ps pa pb : Nat) (A B : Option Addr) (ca cb : Nat) (vs us : List Value) (la lb : List (List Int)) (v : Value) (i j ti tj : Nat)
    (hI : MI w0 w pi pj ps pa pb (.slice A vs.length ca) (.slice B us.length cb) v v i j i)
    (hVA : Aside0 (∀ W, Below w0.heap.size w0 W → Vals W vs la)) (hVB : Aside0 (∀ W, Below w0.heap.size w0 W → Vals W us lb))
    (hCA : Aside0 (∀ W, Below w0.heap.size w0 W → CellsAt W A vs)) (hCB : Aside0 (∀ W, Below w0.heap.size w0 W → CellsAt W B us))
    (hTA : Aside0 (∀ t, t ∈ la → t.length < 140737488355328)) (hTB : Aside0 (∀ t, t ∈ lb → t.length < 140737488355328))
    (hcA : vs.length ≤ ca) (hcB : us.length ≤ cb) (hlA : vs.length ≤ 1000) (hlB : us.length ≤ 1000) (h1 : i ≤ ti) (h2 : ti ≤ vs.length) (h3 : j ≤ tj) (h4 : tj ≤ us.length) :
    Calls Tryz.prog 81 #[.int .i64 (ti : Int), .int .i64 (tj : Int), .pointer (some ⟨pi, 0, none⟩), .pointer (some ⟨pj, 0, none⟩), .pointer (some ⟨ps, 0, none⟩), .pointer (some ⟨pa, 0, none⟩), .pointer (some ⟨pb, 0, none⟩)] w fun e w' =>
      e = .returned (.tuple #[]) ∧ ∃ v', MI w0 w' pi pj ps pa pb (.slice A vs.length ca) (.slice B us.length cb) v' v' (ti + 1) (tj + 1) (ti + 1) := by
  obtain ⟨A2, hs2, HA2⟩ := vals_cut A ca vs i ti h1 h2 hcA hlA
  obtain ⟨A3, hs3, HA3⟩ := vals_cut B cb us j tj h3 h4 hcB hlB
  have hti : i ≤ 1000 := by omega
  have HVA : Aside0 (∀ W, Below w0.heap.size w0 W → Vals W ((vs.take ti).drop i) ((la.take ti).drop i)) := ⟨fun W hb => ((hVA.out W hb).take ti).drop i⟩
  have HVB : Aside0 (∀ W, Below w0.heap.size w0 W → Vals W ((us.take tj).drop j) ((lb.take tj).drop j)) := ⟨fun W hb => ((hVB.out W hb).take tj).drop j⟩
  have HCA : Aside0 (∀ W, Below w0.heap.size w0 W → CellsAt W A2 ((vs.take ti).drop i)) := ⟨fun W hb => HA2 W (hCA.out W hb)⟩
  have HCB : Aside0 (∀ W, Below w0.heap.size w0 W → CellsAt W A3 ((us.take tj).drop j)) := ⟨fun W hb => HA3 W (hCB.out W hb)⟩
  have HTA : Aside0 (∀ t, t ∈ (la.take ti).drop i → t.length < 140737488355328) := ⟨fun t ht => hTA.out t (List.mem_of_mem_take (List.mem_of_mem_drop ht))⟩
  have HTB : Aside0 (∀ t, t ∈ (lb.take tj).drop j → t.length < 140737488355328) := ⟨fun t ht => hTB.out t (List.mem_of_mem_take (List.mem_of_mem_drop ht))⟩
  have eA : vs.length = la.length := (hVA.out w hI.B).1
  have eB : us.length = lb.length := (hVB.out w hI.B).1
  have HLA : Aside0 (((la.take ti).drop i).length ≤ 1000) := ⟨by rw [List.length_drop, List.length_take]; omega⟩
  have HLB : Aside0 (((lb.take tj).drop j).length ≤ 1000) := ⟨by rw [List.length_drop, List.length_take]; omega⟩
  clear HA2 HA3
  generalize (vs.take ti).drop i = vA at hs2 HVA HCA
  generalize (us.take tj).drop j = vB at hs3 HVB HCB
  generalize (la.take ti).drop i = lA at HVA HTA HLA
  generalize (lb.take tj).drop j = lB at HVB HTB HLB
  have hwi : IntKind.i64.wrap ((ti : Int) + 1) = ((ti + 1 : Nat) : Int) := by rw [IntWalk.i64_in _ (by omega)]; omega
  have hwj : IntKind.i64.wrap ((tj : Int) + 1) = ((tj + 1 : Nat) : Int) := by rw [IntWalk.i64_in _ (by omega)]; omega
  have hI := Aside0.mk hI
  clear hVA hVB hCA hCB hTA hTB eA eB
  obtain ⟨cs, ci, cA, cB, cj⟩ := hI.out.cells
  obtain ⟨fs, fi, fj⟩ := hI.out.frozen
  rcases Nat.lt_or_ge i ti with g0 | g0
  · have gg : decide ((i : Int) < (ti : Int)) = true := decide_eq_true (by omega)
    have gg2 : decide (i < ti) = true := decide_eq_true g0
    go_enter Tryz.func81, Tryz.ntmps81
    go_wp2_with fail
    clear cs ci cA cB cj fs fi fj
    refine start_ (n := 16) (S := fun w' => w'.cell? ⟨ps, 0, none⟩ = some v ∧ w'.cell? ⟨pi, 0, none⟩ = some (.int .i64 (i : Int)) ∧ w'.cell? ⟨pa, 0, none⟩ = some (.slice A vs.length ca) ∧ w'.cell? ⟨pb, 0, none⟩ = some (.slice B us.length cb) ∧ w'.cell? ⟨pj, 0, none⟩ = some (.int .i64 (j : Int))) (ds := [15]) #[N,N,N,N,N,N,N,N,N,N,N,N,N,N,N,N] (by kernel_rfl) rfl rfl hI.out.drew.cells (fun hHeld => ?_)
    have HB0 := Aside0.mk hI.out.drew.B
    have hI := Aside0.mk hI.out.drew
    generalize w.drew = w4 at hI HB0 hHeld ⊢
    refine pure_ (i := 4) (N := some 21) (v := ?_) (a' := ?_) #[N,N,N,N,Y,N,N,N,N,N,N,N,N,N,N,N] rfl rfl (by kernel_rfl) (fun _ _ _ h => h) (Or.inl ⟨by rfl, ?_⟩) ?_ ?_; rotate_left
    · intro w'; go_simp; with_reducible rfl
    rotate_left
    · simp only [Act.put, sA,sB,sC, i64_w, i32_w]; rfl
    refine pure_ (i := 9) (N := some 26) (v := ?_) (a' := ?_) #[N,N,N,N,Y,N,N,N,N,Y,N,N,N,N,N,N] rfl rfl (by kernel_rfl) (fun _ _ _ h => h) (Or.inl ⟨by rfl, ?_⟩) ?_ ?_; rotate_left
    · intro w'; go_simp; with_reducible rfl
    rotate_left
    · simp only [Act.put, sA,sB,sC, i64_w, i32_w]; rfl
    refine take_ (i := 0) (N := some 17) (v := ?_) (a' := ?_) #[Y,N,N,N,Y,N,N,N,N,Y,N,N,N,N,N,N] rfl rfl (by kernel_rfl) (fun _ _ _ h => h) (Or.inl ⟨by rfl, ?_⟩) hHeld ?_ ?_; rotate_left
    · rintro w' ⟨s0, s1, s2, s3, s4⟩; go_simp; with_reducible rfl
    rotate_left
    · simp only [Act.put, sA,sB,sC, i64_w, i32_w]; rfl
    refine take_ (i := 1) (N := some 18) (v := ?_) (a' := ?_) #[Y,Y,N,N,Y,N,N,N,N,Y,N,N,N,N,N,N] rfl rfl (by kernel_rfl) (fun _ _ _ h => h) (Or.inl ⟨by rfl, ?_⟩) hHeld ?_ ?_; rotate_left
    · rintro w' ⟨s0, s1, s2, s3, s4⟩; go_simp; with_reducible rfl
    rotate_left
    · simp only [Act.put, sA,sB,sC, i64_w, i32_w]; rfl
    refine take_ (i := 2) (N := some 19) (v := ?_) (a' := ?_) #[Y,Y,Y,N,Y,N,N,N,N,Y,N,N,N,N,N,N] rfl rfl (by kernel_rfl) (fun _ _ _ h => h) (Or.inl ⟨by rfl, ?_⟩) hHeld ?_ ?_; rotate_left
    · rintro w' ⟨s0, s1, s2, s3, s4⟩; go_simp; with_reducible rfl
    rotate_left
    · simp only [Act.put, sA,sB,sC, i64_w, i32_w]; rfl
    refine take_ (i := 3) (N := some 20) (v := ?_) (a' := ?_) #[Y,Y,Y,Y,Y,N,N,N,N,Y,N,N,N,N,N,N] rfl rfl (by kernel_rfl) (fun _ _ _ h => h) (Or.inl ⟨by rfl, ?_⟩) hHeld ?_ ?_; rotate_left
    · rintro w' ⟨s0, s1, s2, s3, s4⟩; go_simp; with_reducible rfl
    rotate_left
    · simp only [Act.put, sA,sB,sC, i64_w, i32_w]; rfl
    refine take_ (i := 7) (N := some 24) (v := ?_) (a' := ?_) #[Y,Y,Y,Y,Y,N,N,Y,N,Y,N,N,N,N,N,N] rfl rfl (by kernel_rfl) (fun _ _ _ h => h) (Or.inl ⟨by rfl, ?_⟩) hHeld ?_ ?_; rotate_left
    · rintro w' ⟨s0, s1, s2, s3, s4⟩; go_simp; with_reducible rfl
    rotate_left
    · simp only [Act.put, sA,sB,sC, i64_w, i32_w]; rfl
    refine take_ (i := 8) (N := some 25) (v := ?_) (a' := ?_) #[Y,Y,Y,Y,Y,N,N,Y,Y,Y,N,N,N,N,N,N] rfl rfl (by kernel_rfl) (fun _ _ _ h => h) (Or.inl ⟨by rfl, ?_⟩) hHeld ?_ ?_; rotate_left
    · rintro w' ⟨s0, s1, s2, s3, s4⟩; go_simp; with_reducible rfl
    rotate_left
    · simp only [Act.put, sA,sB,sC, i64_w, i32_w]; rfl
    refine pure_ (i := 5) (N := some 22) (v := ?_) (a' := ?_) #[Y,Y,Y,Y,Y,Y,N,Y,Y,Y,N,N,N,N,N,N] rfl rfl (by kernel_rfl) (fun _ _ _ h => h) (Or.inl ⟨by rfl, ?_⟩) ?_ ?_; rotate_left
    · intro w'; go_simp; with_reducible rfl
    rotate_left
    · simp only [Act.put, sA,sB,sC, i64_w, i32_w]; rfl
    refine pure_ (i := 10) (N := some 27) (v := ?_) (a' := ?_) #[Y,Y,Y,Y,Y,Y,N,Y,Y,Y,Y,N,N,N,N,N] rfl rfl (by kernel_rfl) (fun _ _ _ h => h) (Or.inl ⟨by rfl, ?_⟩) ?_ ?_; rotate_left
    · intro w'; go_simp; with_reducible rfl
    rotate_left
    · simp only [Act.put, sA,sB,sC, i64_w, i32_w]; rfl
    refine one_ (i := 6) (N := some 23) #[Y,Y,Y,Y,Y,Y,Y,Y,Y,Y,Y,N,N,N,N,N] rfl rfl (by kernel_rfl) (by decide) (fun K hK => ?_)
    refine goes_ Tryz.func82 (by kernel_rfl) rfl #[.slice A2 vA.length (ca - i)] (by rfl) rfl rfl (by simp only [List.map_toArray, List.map_cons, List.map_nil]; rfl) ?_
    with_reducible refine (edit_tokens.calls A2 _ _ lA _ (HVA.out _ HB0.out) (HCA.out _ HB0.out) HLA.out HTA.out).mono ?_
    rintro e w5 ⟨v5, rfl, hv5, hb5⟩
    obtain ⟨A5, c5, rfl⟩ := Kd.R_slice hv5
    clear hv5
    generalize lA.length = n5 at HLA ⊢
    refine ⟨_, rfl, ?_⟩
    have HI5 := Aside0.mk (hI.out.below hb5)
    have HB5 := Aside0.mk (below_step HB0.out hb5)
    clear hb5
    refine hK.out _ _ HI5.out.cells (fun hHeld => ?_)
    clear hK K
    refine norm_ (a' := ?_) ?_ ?_
    rotate_left
    · show Act.put _ (some 23) _ = _
      simp only [Act.put, sA,sB,sC, i64_w, i32_w]; rfl
    refine one_ (i := 11) (N := some 28) #[Y,Y,Y,Y,Y,Y,Y,Y,Y,Y,Y,Y,N,N,N,N] rfl rfl (by kernel_rfl) (by decide) (fun K hK => ?_)
    refine goes_ Tryz.func82 (by kernel_rfl) rfl #[.slice A3 vB.length (cb - j)] (by rfl) rfl rfl (by simp only [List.map_toArray, List.map_cons, List.map_nil]; rfl) ?_
    with_reducible refine (edit_tokens.calls A3 _ _ lB _ (HVB.out _ HB5.out) (HCB.out _ HB5.out) HLB.out HTB.out).mono ?_
    rintro e w6 ⟨v6, rfl, hv6, hb6⟩
    obtain ⟨A6, c6, rfl⟩ := Kd.R_slice hv6
    clear hv6
    generalize lB.length = n6 at HLB ⊢
    refine ⟨_, rfl, ?_⟩
    have HI6 := Aside0.mk (HI5.out.below hb6)
    have HB6 := Aside0.mk (below_step HB5.out hb6)
    clear hb6
    refine hK.out _ _ HI6.out.cells (fun hHeld => ?_)
    clear hK K
    refine norm_ (a' := ?_) ?_ ?_
    rotate_left
    · show Act.put _ (some 28) _ = _
      simp only [Act.put, sA,sB,sC, i64_w, i32_w]; rfl
    refine pure_ (i := 12) (N := some 29) (v := ?_) (a' := ?_) #[Y,Y,Y,Y,Y,Y,Y,Y,Y,Y,Y,Y,Y,N,N,N] rfl rfl (by kernel_rfl) (fun _ _ _ h => h) (Or.inl ⟨by rfl, ?_⟩) ?_ ?_; rotate_left
    · intro w'; go_simp; with_reducible rfl
    rotate_left
    · simp only [Act.put, sA,sB,sC, i64_w, i32_w]; rfl
    refine one_ (i := 13) (N := some 30) #[Y,Y,Y,Y,Y,Y,Y,Y,Y,Y,Y,Y,Y,Y,N,N] rfl rfl (by kernel_rfl) (by decide) (fun K hK => ?_)
    refine value_ (w1 := w6.alloc (.cells #[.int .i64 i, .slice A5 n5 c5, .slice A6 n6 c6] 99)) (v := .slice (some ⟨w6.heap.size, 0, none⟩) 1 1) (by rfl) rfl ?_ ?_
    · first | (go_simp; done) | (go_simp; rfl)
    have HI7 := Aside0.mk (HI6.out.alloc (.cells #[.int .i64 i, .slice A5 n5 c5, .slice A6 n6 c6] 99))
    have hw7 := alloc_at w6 (.cells #[.int .i64 i, .slice A5 n5 c5, .slice A6 n6 c6] 99)
    generalize w6.alloc (.cells #[.int .i64 i, .slice A5 n5 c5, .slice A6 n6 c6] 99) = w7 at HI7 hw7 ⊢
    refine hK.out _ _ HI7.out.cells (fun hHeld => ?_)
    clear hK K
    refine norm_ (a' := ?_) ?_ ?_
    rotate_left
    · show Act.put _ (some 30) _ = _
      simp only [Act.put, sA,sB,sC, i64_w, i32_w]; rfl
    obtain ⟨v8, w8, hr8, HI8⟩ := HI7.out.push hti (fun u hu => by simp only [List.mem_cons, List.not_mem_nil, or_false] at hu; rcases hu with rfl | rfl | rfl <;> rfl) hw7 _
    obtain ⟨A8, n8, c8, rfl⟩ := HI8.form
    refine one_ (i := 14) (N := some 31) #[Y,Y,Y,Y,Y,Y,Y,Y,Y,Y,Y,Y,Y,Y,Y,N] rfl rfl (by kernel_rfl) (by decide) (fun K hK => ?_)
    refine step_append_run ?g1 (.tmp 17) (.tmp 30) 33 ?g2 ?g3 ?g4 hr8 ?_
    case g1 => rfl
    case g2 => rfl
    case g3 => rfl
    case g4 => rfl
    refine hK.out _ _ HI8.cells (fun hHeld => ?_)
    clear hK K
    refine norm_ (a' := ?_) ?_ ?_
    rotate_left
    · show Act.put _ (some 31) _ = _
      simp only [Act.put, sA,sB,sC, i64_w, i32_w]; rfl
    have hfs := blk_frozen HI8.S 0
    refine last_ (i := 15) (N := none) #[Y,Y,Y,Y,Y,Y,Y,Y,Y,Y,Y,Y,Y,Y,Y,Y] rfl rfl (by kernel_rfl) (by decide) (fun K hK => ?_)
    refine skip_ (w1 := ?_) (by rfl) rfl ?_ ?_
    rotate_left
    · go_simp; rfl
    refine hK.out _ _ ?_
    clear hK K
    refine done_ (by kernel_rfl) ?_
    have HI9 := Aside0.mk (HI8.setS (.slice A8 n8 c8))
    clear HI8 hfs
    generalize w8.setCell ⟨ps, 0, none⟩ (.slice A8 n8 c8) = w9 at HI9 ⊢
    obtain ⟨cs, ci, cA, cB, cj⟩ := HI9.out.cells
    obtain ⟨fs, fi, fj⟩ := HI9.out.frozen
    have ck := HI9.out.ne
    have hcj2 : (w9.setCell ⟨pi, 0, none⟩ (.int .i64 ((ti + 1 : Nat) : Int))).frozen? ⟨pj, 0, none⟩ = false := ((HI9.out.setI (ti + 1)).frozen).2.2
    go_wp2_with fail
    go_end0
    exact ⟨rfl, (.slice A8 n8 c8), ((HI9.out.setI (ti + 1)).setJ (tj + 1)).up (by omega)⟩
  · have gg : decide ((i : Int) < (ti : Int)) = false := decide_eq_false (by omega)
    have gg2 : decide (i < ti) = false := decide_eq_false (by omega)
    rcases Nat.lt_or_ge j tj with g1 | g1
    · have gg3 : decide ((j : Int) < (tj : Int)) = true := decide_eq_true (by omega)
      have gg4 : decide (j < tj) = true := decide_eq_true g1
      go_enter Tryz.func81, Tryz.ntmps81
      go_wp2_with fail
      clear cs ci cA cB cj fs fi fj
      refine start_ (n := 16) (S := fun w' => w'.cell? ⟨ps, 0, none⟩ = some v ∧ w'.cell? ⟨pi, 0, none⟩ = some (.int .i64 (i : Int)) ∧ w'.cell? ⟨pa, 0, none⟩ = some (.slice A vs.length ca) ∧ w'.cell? ⟨pb, 0, none⟩ = some (.slice B us.length cb) ∧ w'.cell? ⟨pj, 0, none⟩ = some (.int .i64 (j : Int))) (ds := [15]) #[N,N,N,N,N,N,N,N,N,N,N,N,N,N,N,N] (by kernel_rfl) rfl rfl hI.out.drew.cells (fun hHeld => ?_)
      have HB0 := Aside0.mk hI.out.drew.B
      have hI := Aside0.mk hI.out.drew
      generalize w.drew = w4 at hI HB0 hHeld ⊢
      refine pure_ (i := 4) (N := some 21) (v := ?_) (a' := ?_) #[N,N,N,N,Y,N,N,N,N,N,N,N,N,N,N,N] rfl rfl (by kernel_rfl) (fun _ _ _ h => h) (Or.inl ⟨by rfl, ?_⟩) ?_ ?_; rotate_left
      · intro w'; go_simp; with_reducible rfl
      rotate_left
      · simp only [Act.put, sA,sB,sC, i64_w, i32_w]; rfl
      refine pure_ (i := 9) (N := some 26) (v := ?_) (a' := ?_) #[N,N,N,N,Y,N,N,N,N,Y,N,N,N,N,N,N] rfl rfl (by kernel_rfl) (fun _ _ _ h => h) (Or.inl ⟨by rfl, ?_⟩) ?_ ?_; rotate_left
      · intro w'; go_simp; with_reducible rfl
      rotate_left
      · simp only [Act.put, sA,sB,sC, i64_w, i32_w]; rfl
      refine take_ (i := 0) (N := some 17) (v := ?_) (a' := ?_) #[Y,N,N,N,Y,N,N,N,N,Y,N,N,N,N,N,N] rfl rfl (by kernel_rfl) (fun _ _ _ h => h) (Or.inl ⟨by rfl, ?_⟩) hHeld ?_ ?_; rotate_left
      · rintro w' ⟨s0, s1, s2, s3, s4⟩; go_simp; with_reducible rfl
      rotate_left
      · simp only [Act.put, sA,sB,sC, i64_w, i32_w]; rfl
      refine take_ (i := 1) (N := some 18) (v := ?_) (a' := ?_) #[Y,Y,N,N,Y,N,N,N,N,Y,N,N,N,N,N,N] rfl rfl (by kernel_rfl) (fun _ _ _ h => h) (Or.inl ⟨by rfl, ?_⟩) hHeld ?_ ?_; rotate_left
      · rintro w' ⟨s0, s1, s2, s3, s4⟩; go_simp; with_reducible rfl
      rotate_left
      · simp only [Act.put, sA,sB,sC, i64_w, i32_w]; rfl
      refine take_ (i := 2) (N := some 19) (v := ?_) (a' := ?_) #[Y,Y,Y,N,Y,N,N,N,N,Y,N,N,N,N,N,N] rfl rfl (by kernel_rfl) (fun _ _ _ h => h) (Or.inl ⟨by rfl, ?_⟩) hHeld ?_ ?_; rotate_left
      · rintro w' ⟨s0, s1, s2, s3, s4⟩; go_simp; with_reducible rfl
      rotate_left
      · simp only [Act.put, sA,sB,sC, i64_w, i32_w]; rfl
      refine take_ (i := 3) (N := some 20) (v := ?_) (a' := ?_) #[Y,Y,Y,Y,Y,N,N,N,N,Y,N,N,N,N,N,N] rfl rfl (by kernel_rfl) (fun _ _ _ h => h) (Or.inl ⟨by rfl, ?_⟩) hHeld ?_ ?_; rotate_left
      · rintro w' ⟨s0, s1, s2, s3, s4⟩; go_simp; with_reducible rfl
      rotate_left
      · simp only [Act.put, sA,sB,sC, i64_w, i32_w]; rfl
      refine take_ (i := 7) (N := some 24) (v := ?_) (a' := ?_) #[Y,Y,Y,Y,Y,N,N,Y,N,Y,N,N,N,N,N,N] rfl rfl (by kernel_rfl) (fun _ _ _ h => h) (Or.inl ⟨by rfl, ?_⟩) hHeld ?_ ?_; rotate_left
      · rintro w' ⟨s0, s1, s2, s3, s4⟩; go_simp; with_reducible rfl
      rotate_left
      · simp only [Act.put, sA,sB,sC, i64_w, i32_w]; rfl
      refine take_ (i := 8) (N := some 25) (v := ?_) (a' := ?_) #[Y,Y,Y,Y,Y,N,N,Y,Y,Y,N,N,N,N,N,N] rfl rfl (by kernel_rfl) (fun _ _ _ h => h) (Or.inl ⟨by rfl, ?_⟩) hHeld ?_ ?_; rotate_left
      · rintro w' ⟨s0, s1, s2, s3, s4⟩; go_simp; with_reducible rfl
      rotate_left
      · simp only [Act.put, sA,sB,sC, i64_w, i32_w]; rfl
      refine pure_ (i := 5) (N := some 22) (v := ?_) (a' := ?_) #[Y,Y,Y,Y,Y,Y,N,Y,Y,Y,N,N,N,N,N,N] rfl rfl (by kernel_rfl) (fun _ _ _ h => h) (Or.inl ⟨by rfl, ?_⟩) ?_ ?_; rotate_left
      · intro w'; go_simp; with_reducible rfl
      rotate_left
      · simp only [Act.put, sA,sB,sC, i64_w, i32_w]; rfl
      refine pure_ (i := 10) (N := some 27) (v := ?_) (a' := ?_) #[Y,Y,Y,Y,Y,Y,N,Y,Y,Y,Y,N,N,N,N,N] rfl rfl (by kernel_rfl) (fun _ _ _ h => h) (Or.inl ⟨by rfl, ?_⟩) ?_ ?_; rotate_left
      · intro w'; go_simp; with_reducible rfl
      rotate_left
      · simp only [Act.put, sA,sB,sC, i64_w, i32_w]; rfl
      refine one_ (i := 6) (N := some 23) #[Y,Y,Y,Y,Y,Y,Y,Y,Y,Y,Y,N,N,N,N,N] rfl rfl (by kernel_rfl) (by decide) (fun K hK => ?_)
      refine goes_ Tryz.func82 (by kernel_rfl) rfl #[.slice A2 vA.length (ca - i)] (by rfl) rfl rfl (by simp only [List.map_toArray, List.map_cons, List.map_nil]; rfl) ?_
      with_reducible refine (edit_tokens.calls A2 _ _ lA _ (HVA.out _ HB0.out) (HCA.out _ HB0.out) HLA.out HTA.out).mono ?_
      rintro e w5 ⟨v5, rfl, hv5, hb5⟩
      obtain ⟨A5, c5, rfl⟩ := Kd.R_slice hv5
      clear hv5
      generalize lA.length = n5 at HLA ⊢
      refine ⟨_, rfl, ?_⟩
      have HI5 := Aside0.mk (hI.out.below hb5)
      have HB5 := Aside0.mk (below_step HB0.out hb5)
      clear hb5
      refine hK.out _ _ HI5.out.cells (fun hHeld => ?_)
      clear hK K
      refine norm_ (a' := ?_) ?_ ?_
      rotate_left
      · show Act.put _ (some 23) _ = _
        simp only [Act.put, sA,sB,sC, i64_w, i32_w]; rfl
      refine one_ (i := 11) (N := some 28) #[Y,Y,Y,Y,Y,Y,Y,Y,Y,Y,Y,Y,N,N,N,N] rfl rfl (by kernel_rfl) (by decide) (fun K hK => ?_)
      refine goes_ Tryz.func82 (by kernel_rfl) rfl #[.slice A3 vB.length (cb - j)] (by rfl) rfl rfl (by simp only [List.map_toArray, List.map_cons, List.map_nil]; rfl) ?_
      with_reducible refine (edit_tokens.calls A3 _ _ lB _ (HVB.out _ HB5.out) (HCB.out _ HB5.out) HLB.out HTB.out).mono ?_
      rintro e w6 ⟨v6, rfl, hv6, hb6⟩
      obtain ⟨A6, c6, rfl⟩ := Kd.R_slice hv6
      clear hv6
      generalize lB.length = n6 at HLB ⊢
      refine ⟨_, rfl, ?_⟩
      have HI6 := Aside0.mk (HI5.out.below hb6)
      have HB6 := Aside0.mk (below_step HB5.out hb6)
      clear hb6
      refine hK.out _ _ HI6.out.cells (fun hHeld => ?_)
      clear hK K
      refine norm_ (a' := ?_) ?_ ?_
      rotate_left
      · show Act.put _ (some 28) _ = _
        simp only [Act.put, sA,sB,sC, i64_w, i32_w]; rfl
      refine pure_ (i := 12) (N := some 29) (v := ?_) (a' := ?_) #[Y,Y,Y,Y,Y,Y,Y,Y,Y,Y,Y,Y,Y,N,N,N] rfl rfl (by kernel_rfl) (fun _ _ _ h => h) (Or.inl ⟨by rfl, ?_⟩) ?_ ?_; rotate_left
      · intro w'; go_simp; with_reducible rfl
      rotate_left
      · simp only [Act.put, sA,sB,sC, i64_w, i32_w]; rfl
      refine one_ (i := 13) (N := some 30) #[Y,Y,Y,Y,Y,Y,Y,Y,Y,Y,Y,Y,Y,Y,N,N] rfl rfl (by kernel_rfl) (by decide) (fun K hK => ?_)
      refine value_ (w1 := w6.alloc (.cells #[.int .i64 i, .slice A5 n5 c5, .slice A6 n6 c6] 99)) (v := .slice (some ⟨w6.heap.size, 0, none⟩) 1 1) (by rfl) rfl ?_ ?_
      · first | (go_simp; done) | (go_simp; rfl)
      have HI7 := Aside0.mk (HI6.out.alloc (.cells #[.int .i64 i, .slice A5 n5 c5, .slice A6 n6 c6] 99))
      have hw7 := alloc_at w6 (.cells #[.int .i64 i, .slice A5 n5 c5, .slice A6 n6 c6] 99)
      generalize w6.alloc (.cells #[.int .i64 i, .slice A5 n5 c5, .slice A6 n6 c6] 99) = w7 at HI7 hw7 ⊢
      refine hK.out _ _ HI7.out.cells (fun hHeld => ?_)
      clear hK K
      refine norm_ (a' := ?_) ?_ ?_
      rotate_left
      · show Act.put _ (some 30) _ = _
        simp only [Act.put, sA,sB,sC, i64_w, i32_w]; rfl
      obtain ⟨v8, w8, hr8, HI8⟩ := HI7.out.push hti (fun u hu => by simp only [List.mem_cons, List.not_mem_nil, or_false] at hu; rcases hu with rfl | rfl | rfl <;> rfl) hw7 _
      obtain ⟨A8, n8, c8, rfl⟩ := HI8.form
      refine one_ (i := 14) (N := some 31) #[Y,Y,Y,Y,Y,Y,Y,Y,Y,Y,Y,Y,Y,Y,Y,N] rfl rfl (by kernel_rfl) (by decide) (fun K hK => ?_)
      refine step_append_run ?g1 (.tmp 17) (.tmp 30) 33 ?g2 ?g3 ?g4 hr8 ?_
      case g1 => rfl
      case g2 => rfl
      case g3 => rfl
      case g4 => rfl
      refine hK.out _ _ HI8.cells (fun hHeld => ?_)
      clear hK K
      refine norm_ (a' := ?_) ?_ ?_
      rotate_left
      · show Act.put _ (some 31) _ = _
        simp only [Act.put, sA,sB,sC, i64_w, i32_w]; rfl
      have hfs := blk_frozen HI8.S 0
      refine last_ (i := 15) (N := none) #[Y,Y,Y,Y,Y,Y,Y,Y,Y,Y,Y,Y,Y,Y,Y,Y] rfl rfl (by kernel_rfl) (by decide) (fun K hK => ?_)
      refine skip_ (w1 := ?_) (by rfl) rfl ?_ ?_
      rotate_left
      · go_simp; rfl
      refine hK.out _ _ ?_
      clear hK K
      refine done_ (by kernel_rfl) ?_
      have HI9 := Aside0.mk (HI8.setS (.slice A8 n8 c8))
      clear HI8 hfs
      generalize w8.setCell ⟨ps, 0, none⟩ (.slice A8 n8 c8) = w9 at HI9 ⊢
      obtain ⟨cs, ci, cA, cB, cj⟩ := HI9.out.cells
      obtain ⟨fs, fi, fj⟩ := HI9.out.frozen
      have ck := HI9.out.ne
      have hcj2 : (w9.setCell ⟨pi, 0, none⟩ (.int .i64 ((ti + 1 : Nat) : Int))).frozen? ⟨pj, 0, none⟩ = false := ((HI9.out.setI (ti + 1)).frozen).2.2
      go_wp2_with fail
      go_end0
      exact ⟨rfl, (.slice A8 n8 c8), ((HI9.out.setI (ti + 1)).setJ (tj + 1)).up (by omega)⟩
    · have gg3 : decide ((j : Int) < (tj : Int)) = false := decide_eq_false (by omega)
      have gg4 : decide (j < tj) = false := decide_eq_false (by omega)
      have ck := hI.out.ne
      have hcj2 : (w.setCell ⟨pi, 0, none⟩ (.int .i64 ((ti + 1 : Nat) : Int))).frozen? ⟨pj, 0, none⟩ = false := ((hI.out.setI (ti + 1)).frozen).2.2
      go_enter Tryz.func81, Tryz.ntmps81
      go_wp2_with fail
      go_end0
      exact ⟨rfl, v, ((hI.out.setI (ti + 1)).setJ (tj + 1)).up (by omega)⟩
end Go.Proofs.YtdiojfaenfggkaaGreat.PTopNear
namespace Go.Proofs.YtdiojfaenfggkaaGreat.PTopNear
open Go.RowKit Go.Proofs.YtdiojfaenfggkaaGreatW.PrintWords Go.Proofs.YtdiojfaenfggkaaGreatW.PrintLast Go.Proofs.YtdiojfaenfggkaaGreatW.PrintMore
attribute [local go_sem] max2_int min2_int max_two min_two max_three min_three max_four min_four
set_option linter.unusedVariables false
set_option linter.unusedSimpArgs false
def nextN (qs : List (Nat × Nat)) (k : Nat) : Nat × Nat := if k = 0 then (0, 0) else ((qs.getD (k - 1) (0, 0)).1 + 1, (qs.getD (k - 1) (0, 0)).2 + 1)
theorem nextN_le {a b : List Int} {qs : List (Nat × Nat)} (h : GoodN a b qs) {k : Nat} (hk : k < qs.length) : (nextN qs k).1 ≤ qs[k].1 ∧ (nextN qs k).2 ≤ qs[k].2 := by
  have := aheadP_lt h hk
  unfold aheadP at this
  unfold nextN
  split
  · omega
  · next h0 => rw [if_neg h0] at this; simp only at this ⊢; omega
theorem nextN_max {a b : List Int} {qs : List (Nat × Nat)} (h : GoodN a b qs) {k : Nat} (hk : k ≤ qs.length) : (nextN qs k).1 ≤ a.length ∧ (nextN qs k).2 ≤ b.length := by
  unfold nextN
  split
  · simp
  · have := h.at_ (qs.getD (k - 1) (0, 0)) (by rw [List.getD_eq_getElem?_getD, List.getElem?_eq_getElem (by omega)]; exact List.getElem_mem _)
    simp only
    omega
theorem nextN_succ (qs : List (Nat × Nat)) {k : Nat} (hk : k < qs.length) : nextN qs (k + 1) = (qs[k].1 + 1, qs[k].2 + 1) := by
  unfold nextN
  rw [if_neg (by omega)]
  simp [List.getD_eq_getElem?_getD, hk]
theorem alloc3 (w : World) (o0 o1 o2 : Obj) : (((w.alloc o0).alloc o1).alloc o2).heap[w.heap.size]? = some o0 ∧ (((w.alloc o0).alloc o1).alloc o2).heap[w.heap.size + 1]? = some o1 ∧ (((w.alloc o0).alloc o1).alloc o2).heap[w.heap.size + 1 + 1]? = some o2 := by
  refine ⟨blk_alloc (blk_alloc (alloc_at _ _) _) _, blk_alloc ?_ _, ?_⟩
  · have := alloc_at (w.alloc o0) o1
    rwa [alloc_sz] at this
  · have := alloc_at ((w.alloc o0).alloc o1) o2
    rwa [alloc_sz, alloc_sz] at this
set_option maxHeartbeats 8000000 in
set_option maxRecDepth 100000 in
theorem edit_Make.calls {e0 e1 : Nat} (A B C : Option Addr) (ca cb cc : Nat) (la lb : List (List Int)) (na nb : List Int) (nk : Int) (qs : List (Nat × Nat)) (w : World) (hr0 : Kd.C (Kd.slice e0 (Kd.int .u8)) w A la.length la) (hc0 : la.length ≤ ca) (hr1 : Kd.C (Kd.slice e1 (Kd.int .u8)) w B lb.length lb) (hc1 : lb.length ≤ cb) (hr2 : Kd.C k54 w C qs.length (qs.map toP))
    (hn : names_Two.f la lb = some (na, nb, nk)) (hg : GoodN na nb qs) (hla : la.length ≤ 1000) (hlb : lb.length ≤ 1000) (hla' : na.length = la.length) (hlb' : nb.length = lb.length) (hq : qs.length ≤ 1000) (hta : ∀ t, t ∈ la → t.length < 140737488355328) (htb : ∀ t, t ∈ lb → t.length < 140737488355328) :
    Calls Tryz.prog 42 #[.slice A la.length ca, .slice B lb.length cb, .slice C qs.length cc] w fun e w' => ∃ v n xs, e = .returned (.tuple #[v, .int .i64 0]) ∧ w'.ownsRow w.heap.size 99 3 v n xs ∧ Below w.heap.size w w' := by
  obtain ⟨_, _, vs, a1, a2⟩ := vals_of_C hr0
  obtain ⟨_, _, us, b1, b2⟩ := vals_of_C hr1
  have HVA := Aside0.mk (fun W (hb : Below w.heap.size w W) => a1.below hb)
  have HVB := Aside0.mk (fun W (hb : Below w.heap.size w W) => b1.below hb)
  have HCA := Aside0.mk (fun W (hb : Below w.heap.size w W) => a2.below hb)
  have HCB := Aside0.mk (fun W (hb : Below w.heap.size w W) => b2.below hb)
  have HTA := Aside0.mk hta
  have HTB := Aside0.mk htb
  have HNT := Aside0.mk (fun W (hb : Below w.heap.size w W) => names_Two.calls A ca la B cb lb na nb nk W (Kd.C_below hr0 hb) (Kd.C_below hr1 hb) hn)
  have HG := Aside0.mk hg
  have H2 := Aside0.mk hr2
  have eA : vs.length = la.length := a1.1
  have eB : us.length = lb.length := b1.1
  have HEA := Aside0.mk hla'
  have HEB := Aside0.mk hlb'
  clear a1 a2 b1 b2 hr0 hr1 hn hg hr2 hta htb hla' hlb'
  rw [← eA] at hc0 hla HNT HEA ⊢
  rw [← eB] at hc1 hlb HNT HEB ⊢
  clear eA eB
  go_enter Tryz.func42, Tryz.ntmps42
  go_upto_region 6 with (first
    | (go_at_call 80; ((with_reducible refine (HNT.out _ (below_alloc (below_alloc (Below.refl w.heap.size w) _) _)).mono ?_); rintro e w1 ⟨x, y, rfl, hx, hy, hb⟩; obtain ⟨Ax, cx, rfl⟩ := Kd.R_slice hx; obtain ⟨Ay, cy, rfl⟩ := Kd.R_slice hy; have HX := Aside0.mk ((Kd.R_reads' hx).2.2); have HY := Aside0.mk ((Kd.R_reads' hy).2.2); have HCX := Aside0.mk ((Kd.R_reads' hx).2.1); have HCY := Aside0.mk ((Kd.R_reads' hy).2.1); have HB1 := Aside0.mk (below_step (below_alloc (below_alloc (Below.refl w.heap.size w) _) _) hb); have KA := Aside0.mk (blk_below (blk_alloc (alloc_at w (.cells #[.slice A vs.length ca] 60)) (.cells #[.slice B us.length cb] 60)) hb); have KB := Aside0.mk (blk_below (alloc_at (w.alloc (.cells #[.slice A vs.length ca] 60)) (.cells #[.slice B us.length cb] 60)) hb); clear hx hy hb))
    | (go_at_call 77; ((with_reducible refine (pairs_Good.good Ax Ay C _ _ cc na nb qs _ HX.out HCX.out HY.out HCY.out (Kd.C_below H2.out HB1.out) HG.out hq (by have := HEA.out; omega) (by have := HEB.out; omega)).mono ?_); rintro e w2 ⟨rfl, hb⟩; have HB2 := Aside0.mk (below_step HB1.out hb); have n1_ := Aside0.mk (blk_below KA.out hb); have n2_ := Aside0.mk (blk_below KB.out hb); clear KA KB hb; have KA := n1_; have KB := n2_; clear n1_ n2_ HX HY)))
  obtain ⟨k0, k1, k2⟩ := alloc3 w2 (Obj.cells #[.slice none 0 0] 33) (Obj.cells #[.int .i64 0] 3) (Obj.cells #[.int .i64 0] 3)
  have HMI := Aside0.mk (show ∃ v, MI w (((w2.alloc (Obj.cells #[.slice none 0 0] 33)).alloc (Obj.cells #[.int .i64 0] 3)).alloc (Obj.cells #[.int .i64 0] 3)) (w2.heap.size + 1) (w2.heap.size + 1 + 1) w2.heap.size w.heap.size (w.heap.size + 1) (.slice A vs.length ca) (.slice B us.length cb) v v (nextN qs 0).1 (nextN qs 0).2 (nextN qs 0).1 from ⟨.slice none 0 0, below_alloc (below_alloc (below_alloc HB2.out _) _) _, by have := HB2.out.size; omega, by have := HB2.out.size; omega, HB2.out.size, by omega, k1, k2, k0, blk_alloc (blk_alloc (blk_alloc KA.out _) _) _, (by have h_ := KB.out; rw [alloc_sz] at h_; exact blk_alloc (blk_alloc (blk_alloc h_ _) _) _), 0, [], ⟨by simp, .inl ⟨rfl, rfl⟩⟩, Nat.zero_le _⟩)
  clear k0 k1 k2 KA KB HB1 HB2 HCX HCY
  generalize (((w2.alloc (Obj.cells #[.slice none 0 0] 33)).alloc (Obj.cells #[.int .i64 0] 3)).alloc (Obj.cells #[.int .i64 0] 3)) = w3 at HMI ⊢
  generalize w2.heap.size + 1 + 1 = pj at HMI ⊢
  generalize w2.heap.size + 1 = pi at HMI ⊢
  generalize w2.heap.size = ps at HMI ⊢
  generalize w.heap.size + 1 = pb at HMI ⊢
  generalize epa : w.heap.size = pa at HMI ⊢
  have hmf : ∀ (fn : Fn) (first cap : Array Value) (w : World), (Instr.makeFunc fn first cap).run Tryz.prog w = .ok (.func fn first cap) w := fun _ _ _ _ => rfl
  go_wp2_with fail
  go_loopw [32] (fun v32 wr => ∃ k : Nat, k ≤ qs.length ∧ v32 = .int .i64 k ∧ Aside0 (∃ v, MI w wr pi pj ps pa pb (.slice A vs.length ca) (.slice B us.length cb) v v (nextN qs k).1 (nextN qs k).2 (nextN qs k).1)) (fun v32 _ => qs.length - (intOf v32).toNat)
  case atStart => exact ⟨0, by omega, rfl, HMI⟩
  case round =>
    clear HMI
    obtain ⟨k, hk, rfl, HMI⟩ := hrel
    obtain ⟨v, hM⟩ := HMI.out
    have HM := Aside0.mk hM
    clear hM HMI
    by_cases hlt : k < qs.length
    · have tk : decide ((k : Int) < (qs.length : Int)) = true := decide_eq_true (by omega)
      obtain ⟨ad, rfl, hx, hy⟩ := at_T54 (Kd.C_below H2.out HM.out.B) (k : Int) (by omega) (by omega)
      rw [rd_T54_toP qs k hlt, Int.toNat_natCast] at hx hy
      obtain ⟨b1, b2, _⟩ := HG.out.at_ _ (List.getElem_mem hlt)
      obtain ⟨l1, l2⟩ := nextN_le HG.out hlt
      have HN := Aside0.mk (nextN_succ qs hlt)
      have b1 := Nat.lt_of_lt_of_eq b1 HEA.out
      have b2 := Nat.lt_of_lt_of_eq b2 HEB.out
      generalize qs[k] = q at hx hy b1 b2 l1 l2 HN
      obtain ⟨x, y⟩ := q
      simp only at hx hy b1 b2 l1 l2 HN
      generalize nextN qs k = nk at HM l1 l2
      obtain ⟨i, j⟩ := nk
      simp only at HM l1 l2
      have g0 : (0 : Int) ≤ (k : Int) := by omega
      have g1 : (k : Int) < (qs.length : Int) := by omega
      go_wp2_with (go_at_call 81; ((with_reducible refine (edit_hunk.calls w _ pi pj ps pa pb A B ca cb vs us la lb v i j x y (HM.out.alloc _) HVA HVB HCA HCB HTA HTB hc0 hc1 hla hlb l1 (by omega) l2 (by omega)).mono ?_); rintro e w5 ⟨rfl, hm⟩; have HM5 := Aside0.mk hm; clear hm))
      go_roundw
      case rel => exact ⟨k + 1, by omega, by go_num, ⟨by rw [HN.out]; exact HM5.out⟩⟩
      case measure => simp [intOf]; omega
    · obtain rfl : k = qs.length := by omega
      have tk : decide ((qs.length : Int) < (qs.length : Int)) = false := decide_eq_false (by omega)
      obtain ⟨l1, l2⟩ := nextN_max HG.out (Nat.le_refl _)
      have l1 := Nat.le_trans l1 (Nat.le_of_eq HEA.out)
      have l2 := Nat.le_trans l2 (Nat.le_of_eq HEB.out)
      generalize nextN qs qs.length = nk at HM l1 l2
      obtain ⟨i, j⟩ := nk
      simp only at HM l1 l2
      obtain ⟨cs, ci, cA, cB, cj⟩ := HM.out.cells
      go_wp2_with (go_at_call 81; ((with_reducible refine (edit_hunk.calls w _ pi pj ps pa pb A B ca cb vs us la lb v i j vs.length us.length HM.out HVA HVB HCA HCB HTA HTB hc0 hc1 hla hlb (by omega) (Nat.le_refl _) (by omega) (Nat.le_refl _)).mono ?_); rintro e w5 ⟨rfl, v5, hm⟩; have hc5 := hm.cells.1; have HM5 := Aside0.mk hm; clear hm))
      go_ret2
      obtain ⟨n, xs, h1, h2⟩ := HM5.out.O
      exact ⟨v5, n, xs, rfl, h1, HM5.out.B⟩
end Go.Proofs.YtdiojfaenfggkaaGreat.PTopNear
namespace Go.Proofs.YtdiojfaenfggkaaGreat.PTopNear
open Go.RowKit Go.Proofs.YtdiojfaenfggkaaGreatW.PrintWords Go.Proofs.YtdiojfaenfggkaaGreatW.PrintLast Go.Proofs.YtdiojfaenfggkaaGreatW.PrintMore
attribute [local go_sem] max2_int min2_int max_two min_two max_three min_three max_four min_four
set_option linter.unusedVariables false
set_option linter.unusedSimpArgs false
theorem backW_good (a b : List Int) : GoodN a b (backW a b a.length b.length).reverse ∧ (backW a b a.length b.length).reverse.length = lcs a b := by
  refine ⟨⟨fun q hq => ?_, ?_⟩, ?_⟩
  · obtain ⟨h1, h2, h3⟩ := backW_in a b _ _ _ (Nat.le_refl _) q.1 q.2 (List.mem_reverse.1 hq)
    refine ⟨h1, h2, ?_⟩
    simp only [rd, Int.toNat_natCast] at h3 ⊢
    exact h3
  · rw [List.pairwise_reverse]
    exact backW_falls a b _ _ _ (Nat.le_refl _)
  · rw [List.length_reverse, backW_len a b _ _ _ (Nat.le_refl _) (Nat.le_refl _) (Nat.le_refl _), H_all]
theorem root_small (n : Nat) (h : n ≤ 24) : ∃ r : Nat, walk_Root.f 10 (n : Int) = some (r : Int) ∧ 1 ≤ r ∧ r ≤ max n 1 := by
  have hb : (List.range 25).all (fun n => match walk_Root.f 10 (n : Int) with | some r => decide (1 ≤ r) && decide (r ≤ max (n : Int) 1) | none => false) = true := by kernel_rfl
  have h1 := List.all_eq_true.1 hb n (List.mem_range.2 (by omega))
  split at h1
  · next r hr =>
    simp only [Bool.and_eq_true, decide_eq_true_eq] at h1
    exact ⟨r.toNat, by rw [hr]; congr 1; omega, by omega, by omega⟩
  · simp at h1
set_option maxHeartbeats 8000000 in
set_option maxRecDepth 100000 in
theorem port_run.small (eng : Nat) (A0 A1 : Option Addr) (c0 c1 : Nat) (a b : List Int) (w : World) (hr0 : Kd.C (Kd.int .i64) w A0 a.length a) (hc0 : a.length ≤ c0) (hr1 : Kd.C (Kd.int .i64) w A1 b.length b) (hc1 : b.length ≤ c1) (ha : a.length ≤ 24) (hb : b.length ≤ 24) (hw0 : ∀ x ∈ a, (Lit.int .i64 x).wf = true) (hw1 : ∀ x ∈ b, (Lit.int .i64 x).wf = true)
    (he : eng = 1 ∨ (eng = 7 ∧ 1 ≤ b.length)) :
    Calls Tryz.prog 39 #[.int .i64 (eng : Int), .slice A0 a.length c0, .slice A1 b.length c1] w fun e w' => ∃ v s qs, e = .returned (.tuple #[v, .int .i64 s]) ∧ Kd.R k54 54 w' w.heap.size (fun _ => True) v (qs.map toP) ∧ GoodN a b qs ∧ qs.length = lcs a b ∧ Below w.heap.size w w' := by
  rcases he with rfl | ⟨rfl, hb1⟩
  · obtain ⟨l, h1, h2, h3⟩ := grid_Run_eq a b (by omega) (by omega)
    obtain ⟨k, hk⟩ := h3.rounds
    obtain ⟨qs, rfl, hg⟩ := goodN_of h1
    rw [List.length_map] at h2
    have HG := Aside0.mk (grid_Run.calls k A0 c0 a A1 c1 b _ _ w hr0 hc0 hr1 hc1 hk)
    clear h1 h3 hk hr0 hc0 hr1 hc1 hw0 hw1 ha hb
    have h2 := Aside0.mk h2
    go_enter Tryz.func39, Tryz.ntmps39
    go_wp2_with (go_at_call 67; ((with_reducible refine HG.out.mono ?_); rintro e w1 ⟨v, rfl, hv, hb⟩; have HV := Aside0.mk hv; have HB := Aside0.mk hb; clear hv hb))
    go_ret2
    exact ⟨v, _, qs, rfl, HV.out, hg, h2.out, HB.out⟩
  · obtain ⟨r, h1, h2, h3⟩ := root_small a.length ha
    have HR := Aside0.mk (walk_Root.calls 10 (a.length : Int) (r : Int) w h1)
    have HW := Aside0.mk (fun W (hbl : Below w.heap.size w W) => walk_Run.calls r A0 A1 c0 c1 a b W (Kd.C_below hr0 hbl) (Kd.C_below hr1 hbl) ha hb1 hb hw0 hw1 h2 h3)
    obtain ⟨g1, g2⟩ := backW_good a b
    have g2 := Aside0.mk g2
    clear h1 h2 h3 hr0 hc0 hr1 hc1 hw0 hw1 ha hb hb1
    generalize (backW a b a.length b.length).reverse = qs at HW g1 g2
    go_enter Tryz.func39, Tryz.ntmps39
    go_wp2_with (first
      | (go_at_call 75; ((with_reducible refine HR.out.mono ?_); rintro e w1 ⟨rfl, hb⟩; have HB := Aside0.mk hb; clear hb))
      | (go_at_call 74; ((with_reducible refine (HW.out _ HB.out).mono ?_); rintro e w2 ⟨v, s, rfl, hv, hb⟩; have HV := Aside0.mk hv; have HB2 := Aside0.mk hb; clear hv hb)))
    go_ret2
    exact ⟨v, s, qs, rfl, Kd.R_lower HV.out HB.out.size, g1, g2.out, below_step HB.out HB2.out⟩
end Go.Proofs.YtdiojfaenfggkaaGreat.PTopNear
namespace Go.Proofs.YtdiojfaenfggkaaGreat.PTopNear
open Go.RowKit Go.Proofs.YtdiojfaenfggkaaGreatW.PrintWords Go.Proofs.YtdiojfaenfggkaaGreatW.PrintLast Go.Proofs.YtdiojfaenfggkaaGreatW.PrintMore
attribute [local go_sem] max2_int min2_int max_two min_two max_three min_three max_four min_four
set_option linter.unusedVariables false
set_option linter.unusedSimpArgs false
def lineEnd : List Int → Nat
  | [] => 0
  | c :: t => if c = 10 then 1 else lineEnd t + 1
def lines : List Int → List (List Int)
  | [] => []
  | c :: t => if c = 10 then [10] :: lines t else match lines t with
    | [] => [[c]]
    | l :: ls => (c :: l) :: ls
def cutsOf (byLine : Bool) (b : List Int) : List (List Int) := if byLine = true then lines b else b.map fun c => [c]
theorem lines_eq : ∀ b : List Int, b ≠ [] → lines b = b.take (lineEnd b) :: lines (b.drop (lineEnd b))
  | [], h => absurd rfl h
  | c :: t, _ => by
    by_cases e : c = 10
    · subst e; simp [lines, lineEnd]
    · cases t with
      | nil => simp [lines, lineEnd, e]
      | cons d t =>
        have ih := lines_eq (d :: t) (by simp)
        have e2 : lineEnd (c :: d :: t) = lineEnd (d :: t) + 1 := by rw [lineEnd, if_neg e]
        rw [lines, if_neg e, ih, e2]
        simp
theorem lineEnd_le : ∀ b : List Int, lineEnd b ≤ b.length
  | [] => Nat.le_refl _
  | c :: t => by
    have := lineEnd_le t
    unfold lineEnd
    split <;> simp <;> omega
theorem lineEnd_pos : ∀ b : List Int, b ≠ [] → 0 < lineEnd b
  | [], h => absurd rfl h
  | c :: t, _ => by unfold lineEnd; split <;> omega
theorem lines_flatten : ∀ b : List Int, (lines b).flatten = b
  | [] => rfl
  | c :: t => by
    have ih := lines_flatten t
    rw [lines]
    split
    · rename_i e; simp [ih, e]
    · revert ih
      cases lines t with
      | nil => intro ih; simp at ih; simp [← ih]
      | cons l ls => intro ih; simp at ih; simp [← ih]
theorem chars_flatten : ∀ b : List Int, (b.map fun c => [c]).flatten = b
  | [] => rfl
  | c :: t => by simp [chars_flatten t]
theorem cutsOf_flatten (m : Bool) (b : List Int) : (cutsOf m b).flatten = b := by
  unfold cutsOf; split
  · exact lines_flatten b
  · exact chars_flatten b
theorem lines_length : ∀ b : List Int, (lines b).length ≤ b.length
  | [] => Nat.le_refl _
  | c :: t => by
    have ih := lines_length t
    rw [lines]
    split
    · simp; omega
    · revert ih
      cases lines t with
      | nil => intro ih; simp
      | cons l ls => intro ih; simp at ih ⊢; omega
def u8s (b : List Int) : Prop := ∀ x ∈ b, 0 ≤ x ∧ x < 256
theorem u8s_drop {b : List Int} (h : u8s b) (n : Nat) : u8s (b.drop n) := fun x hx => h x (List.mem_of_mem_drop hx)
theorem ten_iff (c : Int) (h : 0 ≤ c ∧ c < 256) : (UInt8.ofNat c.toNat == (10 : Int).toNat.toUInt8) = decide (c = 10) := by
  obtain ⟨n, rfl⟩ := Int.eq_ofNat_of_zero_le h.1
  rw [Bool.eq_iff_iff, beq_iff_eq, decide_eq_true_eq]
  constructor
  · intro e
    have := congrArg UInt8.toNat e
    have e10 : ((10 : Int).toNat.toUInt8).toNat = 10 := by decide
    rw [e10, UInt8.toNat_ofNat'] at this
    have e2 : ((n : Int)).toNat = n := by omega
    rw [e2] at this
    omega
  · intro e
    have : n = 10 := by omega
    subst this; rfl
theorem indexByte_cases : ∀ b : List Int, u8s b → (Lib.indexByte (Lib.bytesOf b) (10 : Int).toNat.toUInt8 = -1 ∧ lineEnd b = b.length ∧ ∀ q, q < b.length → b.getD q 0 ≠ 10) ∨ (0 ≤ Lib.indexByte (Lib.bytesOf b) (10 : Int).toNat.toUInt8 ∧ Lib.indexByte (Lib.bytesOf b) (10 : Int).toNat.toUInt8 + 1 = lineEnd b)
  | [], _ => .inl ⟨rfl, rfl, fun q hq => by simp at hq⟩
  | c :: t, h => by
    have ih := indexByte_cases t (fun x hx => h x (List.mem_cons_of_mem _ hx))
    have hc := ten_iff c (h c List.mem_cons_self)
    have e : Lib.bytesOf (c :: t) = UInt8.ofNat c.toNat :: Lib.bytesOf t := rfl
    rw [e, Lib.indexByte, hc]
    by_cases c10 : c = 10
    · rw [decide_eq_true c10, if_pos rfl, lineEnd, if_pos c10]
      exact .inr ⟨Int.le_refl _, rfl⟩
    · rw [decide_eq_false c10, if_neg (by decide), lineEnd, if_neg c10]
      rcases ih with ⟨i1, i2, i3⟩ | ⟨i1, i2⟩
      · rw [i1, if_pos (by decide)]
        refine .inl ⟨rfl, by simp [i2], fun q hq => ?_⟩
        cases q with
        | zero => simpa using c10
        | succ q => simpa using i3 q (by simpa using hq)
      · have hne : (Lib.indexByte (Lib.bytesOf t) (10 : Int).toNat.toUInt8 == -1) = false := beq_eq_false_iff_ne.2 (by omega)
        rw [hne, if_neg (by decide)]
        exact .inr ⟨by omega, by rw [i2]; rfl⟩
theorem clone_eq (b : List Int) (h : b.length ≤ 1000000) : bytes_Clone.f b = some b := by
  unfold bytes_Clone.f; rw [if_pos (by omega)]
theorem tok_Cut_lines : ∀ (n k : Nat) (b : List Int) (acc : List (List Int)), b.length = n → u8s b → b.length + acc.length ≤ 1000000 → n < k → tok_Cut.l0 k 1 b acc = some (acc ++ lines b, 0) := by
  intro n
  induction n using Nat.strongRecOn with
  | ind n ih =>
    intro k b acc hn hu hl hk
    obtain ⟨k, rfl⟩ : ∃ m, k = m + 1 := ⟨k - 1, by omega⟩
    by_cases h0 : b = []
    · subst h0
      rw [tok_Cut.l0, if_neg (by simp)]; simp [lines]
    · have hpos : 0 < b.length := List.length_pos_iff.2 h0
      have hle := lineEnd_le b
      have hlp := lineEnd_pos b h0
      have hd : (b.drop (lineEnd b)).length = b.length - lineEnd b := by simp
      have ht : (b.take (lineEnd b)).length ≤ b.length := by simp; omega
      have h4 := ih (b.length - lineEnd b) (by omega) k (b.drop (lineEnd b)) (acc ++ [b.take (lineEnd b)]) hd (u8s_drop hu _) (by simp; omega) (by omega)
      rw [List.append_assoc, List.singleton_append, ← lines_eq b h0] at h4
      rw [tok_Cut.l0, if_pos (by omega), if_pos rfl]
      unfold bytes_IndexByte.f
      rw [bs]
      rcases indexByte_cases b hu with ⟨i1, i2, _⟩ | ⟨i1, i2⟩
      · rw [i2] at h4
        rw [i1, wr (by omega) (by omega), if_pos (by omega), if_pos (by omega), if_pos (by omega), Int.toNat_natCast, clone_eq _ (by simp; omega), bs, if_pos (by omega), h4]
      · have e2 : (lineEnd b : Int).toNat = lineEnd b := by omega
        rw [i2, wr (by omega) (by omega), if_neg (by omega), if_pos (by omega), if_pos (by omega), e2, clone_eq _ (by omega), bs, if_pos (by omega), h4]
theorem tok_Cut_chars : ∀ (b : List Int) (k : Nat) (acc : List (List Int)), b.length + acc.length ≤ 1000000 → b.length < k → tok_Cut.l0 k 0 b acc = some (acc ++ b.map fun c => [c], 0)
  | [], k, acc, _, hk => by
    obtain ⟨k, rfl⟩ : ∃ m, k = m + 1 := ⟨k - 1, by omega⟩
    rw [tok_Cut.l0, if_neg (by simp)]; simp
  | c :: t, k, acc, hl, hk => by
    obtain ⟨k, rfl⟩ : ∃ m, k = m + 1 := ⟨k - 1, by omega⟩
    have hlen : (c :: t).length = t.length + 1 := rfl
    have h4 := tok_Cut_chars t k (acc ++ [[c]]) (by simp; omega) (by omega)
    rw [tok_Cut.l0, if_pos (by omega), if_neg (by decide), if_pos (by omega), clone_eq _ (by simp), bs, if_pos (by omega)]
    simp only [List.take_succ_cons, List.take_zero, List.drop_succ_cons, List.drop_zero]
    rw [h4]; simp
def modeOf (m : Bool) : Int := if m = true then 1 else 0
theorem tok_Cut_eq (m : Bool) (b : List Int) (hu : u8s b) (hb : b.length ≤ 100000) (k : Nat) (hk : b.length < k) : tok_Cut.f k (modeOf m) b = some (cutsOf m b, 0) := by
  unfold tok_Cut.f tok_isMode.f modeOf cutsOf
  cases m with
  | true =>
    rw [if_pos rfl, if_neg (by decide), bs, if_pos (by decide), tok_Cut_lines b.length k b [] rfl hu (by simp; omega) hk, if_pos rfl]; rfl
  | false =>
    show ((if (0 : Int) = 0 then some true else some ((0 : Int) == 1)).bind fun t => if t = true then tok_Cut.l0 k 0 b [] else some ([], 1)) = some (b.map fun c => [c], 0)
    rw [if_pos rfl, bs, if_pos rfl, tok_Cut_chars b k [] (by simp; omega) hk]; rfl
end Go.Proofs.YtdiojfaenfggkaaGreat.PTopNear
namespace Go.Proofs.YtdiojfaenfggkaaGreat.PTopNear
open Go.RowKit Go.Proofs.YtdiojfaenfggkaaGreatW.PrintWords Go.Proofs.YtdiojfaenfggkaaGreatW.PrintLast Go.Proofs.YtdiojfaenfggkaaGreatW.PrintMore
attribute [local go_sem] max2_int min2_int max_two min_two max_three min_three max_four min_four
set_option linter.unusedVariables false
set_option linter.unusedSimpArgs false
def xsOf (la lb : List (List Int)) : List Int := la.map (fun t => (rkT (la ++ lb) t : Int))
def ysOf (la lb : List (List Int)) : List Int := lb.map (fun t => (rkT (la ++ lb) t : Int))
theorem names_some (la lb : List (List Int)) (hl : la.length + lb.length ≤ 1000000) (ht : ∀ t, t ∈ la ++ lb → t.length < 140737488355328) : names_Two.f la lb = some (xsOf la lb, ysOf la lb, (cardT (la ++ lb) : Int)) := by
  unfold names_Two.f
  rw [if_pos ⟨hl, ht⟩]
  rfl
theorem alloc2 (w : World) (o0 o1 : Obj) : ((w.alloc o0).alloc o1).heap[w.heap.size]? = some o0 ∧ ((w.alloc o0).alloc o1).heap[w.heap.size + 1]? = some o1 := by
  refine ⟨blk_alloc (alloc_at _ _) _, ?_⟩
  have := alloc_at (w.alloc o0) o1
  rwa [alloc_sz] at this
structure TaskC (W : World) (la lb : List (List Int)) (x y u v : List Int) (Aa Ab Ax Ay Au Av : Option Addr) (ca cb cx cy cu cv : Nat) : Prop where
  ra : (Kd.slice 5 (Kd.int .u8)).R 22 W 0 (fun _ => True) (.slice Aa la.length ca) la
  rb : (Kd.slice 5 (Kd.int .u8)).R 22 W 0 (fun _ => True) (.slice Ab lb.length cb) lb
  rx : (Kd.int .i64).R 3 W 0 (fun _ => True) (.slice Ax x.length cx) x
  ry : (Kd.int .i64).R 3 W 0 (fun _ => True) (.slice Ay y.length cy) y
  ru : (Kd.int .i64).R 3 W 0 (fun _ => True) (.slice Au u.length cu) u
  rv : (Kd.int .i64).R 3 W 0 (fun _ => True) (.slice Av v.length cv) v
theorem TaskC.fa {W : World} {la lb : List (List Int)} {x y u v : List Int} {Aa Ab Ax Ay Au Av : Option Addr} {ca cb cx cy cu cv : Nat} (h : TaskC W la lb x y u v Aa Ab Ax Ay Au Av ca cb cx cy cu cv) : Kd.C (Kd.slice 5 (Kd.int .u8)) W Aa la.length la := (Kd.R_reads' h.ra).2.2
theorem TaskC.fa' {W : World} {la lb : List (List Int)} {x y u v : List Int} {Aa Ab Ax Ay Au Av : Option Addr} {ca cb cx cy cu cv : Nat} (h : TaskC W la lb x y u v Aa Ab Ax Ay Au Av ca cb cx cy cu cv) : la.length ≤ ca := (Kd.R_reads' h.ra).2.1
theorem TaskC.fb {W : World} {la lb : List (List Int)} {x y u v : List Int} {Aa Ab Ax Ay Au Av : Option Addr} {ca cb cx cy cu cv : Nat} (h : TaskC W la lb x y u v Aa Ab Ax Ay Au Av ca cb cx cy cu cv) : Kd.C (Kd.slice 5 (Kd.int .u8)) W Ab lb.length lb := (Kd.R_reads' h.rb).2.2
theorem TaskC.fb' {W : World} {la lb : List (List Int)} {x y u v : List Int} {Aa Ab Ax Ay Au Av : Option Addr} {ca cb cx cy cu cv : Nat} (h : TaskC W la lb x y u v Aa Ab Ax Ay Au Av ca cb cx cy cu cv) : lb.length ≤ cb := (Kd.R_reads' h.rb).2.1
theorem TaskC.fx {W : World} {la lb : List (List Int)} {x y u v : List Int} {Aa Ab Ax Ay Au Av : Option Addr} {ca cb cx cy cu cv : Nat} (h : TaskC W la lb x y u v Aa Ab Ax Ay Au Av ca cb cx cy cu cv) : Kd.C (Kd.int .i64) W Ax x.length x := (Kd.R_reads' h.rx).2.2
theorem TaskC.fx' {W : World} {la lb : List (List Int)} {x y u v : List Int} {Aa Ab Ax Ay Au Av : Option Addr} {ca cb cx cy cu cv : Nat} (h : TaskC W la lb x y u v Aa Ab Ax Ay Au Av ca cb cx cy cu cv) : x.length ≤ cx := (Kd.R_reads' h.rx).2.1
theorem TaskC.fy {W : World} {la lb : List (List Int)} {x y u v : List Int} {Aa Ab Ax Ay Au Av : Option Addr} {ca cb cx cy cu cv : Nat} (h : TaskC W la lb x y u v Aa Ab Ax Ay Au Av ca cb cx cy cu cv) : Kd.C (Kd.int .i64) W Ay y.length y := (Kd.R_reads' h.ry).2.2
theorem TaskC.fy' {W : World} {la lb : List (List Int)} {x y u v : List Int} {Aa Ab Ax Ay Au Av : Option Addr} {ca cb cx cy cu cv : Nat} (h : TaskC W la lb x y u v Aa Ab Ax Ay Au Av ca cb cx cy cu cv) : y.length ≤ cy := (Kd.R_reads' h.ry).2.1
theorem TaskC.fu {W : World} {la lb : List (List Int)} {x y u v : List Int} {Aa Ab Ax Ay Au Av : Option Addr} {ca cb cx cy cu cv : Nat} (h : TaskC W la lb x y u v Aa Ab Ax Ay Au Av ca cb cx cy cu cv) : Kd.C (Kd.int .i64) W Au u.length u := (Kd.R_reads' h.ru).2.2
theorem TaskC.fu' {W : World} {la lb : List (List Int)} {x y u v : List Int} {Aa Ab Ax Ay Au Av : Option Addr} {ca cb cx cy cu cv : Nat} (h : TaskC W la lb x y u v Aa Ab Ax Ay Au Av ca cb cx cy cu cv) : u.length ≤ cu := (Kd.R_reads' h.ru).2.1
theorem TaskC.fv {W : World} {la lb : List (List Int)} {x y u v : List Int} {Aa Ab Ax Ay Au Av : Option Addr} {ca cb cx cy cu cv : Nat} (h : TaskC W la lb x y u v Aa Ab Ax Ay Au Av ca cb cx cy cu cv) : Kd.C (Kd.int .i64) W Av v.length v := (Kd.R_reads' h.rv).2.2
theorem TaskC.fv' {W : World} {la lb : List (List Int)} {x y u v : List Int} {Aa Ab Ax Ay Au Av : Option Addr} {ca cb cx cy cu cv : Nat} (h : TaskC W la lb x y u v Aa Ab Ax Ay Au Av ca cb cx cy cu cv) : v.length ≤ cv := (Kd.R_reads' h.rv).2.1
theorem TaskC.below {W : World} {la lb : List (List Int)} {x y u v : List Int} {Aa Ab Ax Ay Au Av : Option Addr} {ca cb cx cy cu cv : Nat} (h : TaskC W la lb x y u v Aa Ab Ax Ay Au Av ca cb cx cy cu cv) {W' : World} (hb : Below W.heap.size W W') : TaskC W' la lb x y u v Aa Ab Ax Ay Au Av ca cb cx cy cu cv :=
  ⟨Kd.R_below h.ra hb, Kd.R_below h.rb hb, Kd.R_below h.rx hb, Kd.R_below h.ry hb, Kd.R_below h.ru hb, Kd.R_below h.rv hb⟩
section
variable {α : Type} {d : Kd α} {e : Nat} {w W W' : World} {base : Nat} {ok : Nat → Prop} {v : Value} {xs : List α} {g : Nat} {cs : Array Value}
end
def puts (W : World) (g : Nat) : List (Nat × Value) → World
  | [] => W
  | p :: us => puts (W.setCell ⟨g, p.1, none⟩ p.2) g us
theorem R_puts {α : Type} {d : Kd α} {e : Nat} {base : Nat} {ok : Nat → Prop} {v : Value} {xs : List α} {g t : Nat} (ht : ∀ q, q ∈ e :: d.E → q ≠ t) : ∀ (us : List (Nat × Value)) {W : World} {cs : Array Value}, d.R e W base ok v xs → W.heap[g]? = some (.cells cs t (0, 0)) → d.R e (puts W g us) base ok v xs
  | [], _, _, h, _ => h
  | p :: us, _, _, h, hk => R_puts ht us (Kd.R_set h hk ht p.1 p.2) (blk_set hk p.1 p.2)
theorem TaskC.puts {W : World} {la lb : List (List Int)} {x y u v : List Int} {Aa Ab Ax Ay Au Av : Option Addr} {ca cb cx cy cu cv : Nat} (h : TaskC W la lb x y u v Aa Ab Ax Ay Au Av ca cb cx cy cu cv) {g t : Nat} (ht : ∀ q, q ∈ [22, 5, 3] → q ≠ t) {cs : Array Value} (hk : W.heap[g]? = some (.cells cs t (0, 0))) (us : List (Nat × Value)) : TaskC (puts W g us) la lb x y u v Aa Ab Ax Ay Au Av ca cb cx cy cu cv :=
  ⟨R_puts (fun q hq => ht q (by revert hq; simp [Kd.slice, Kd.int, Kd.scalar]; omega)) us h.ra hk, R_puts (fun q hq => ht q (by revert hq; simp [Kd.slice, Kd.int, Kd.scalar]; omega)) us h.rb hk, R_puts (fun q hq => ht q (by revert hq; simp [Kd.int, Kd.scalar]; omega)) us h.rx hk, R_puts (fun q hq => ht q (by revert hq; simp [Kd.int, Kd.scalar]; omega)) us h.ry hk, R_puts (fun q hq => ht q (by revert hq; simp [Kd.int, Kd.scalar]; omega)) us h.ru hk, R_puts (fun q hq => ht q (by revert hq; simp [Kd.int, Kd.scalar]; omega)) us h.rv hk⟩
theorem below_puts {w : World} {g : Nat} (hg : w.heap.size ≤ g) : ∀ (us : List (Nat × Value)) {W : World}, Below w.heap.size w W → Below w.heap.size w (puts W g us)
  | [], _, h => h
  | p :: us, _, h => below_puts hg us (below_set h hg)
set_option maxHeartbeats 8000000 in
set_option maxRecDepth 100000 in
theorem port_cut.calls (m : Bool) (P0 P1 : Nat → Prop) (A0 A1 : Option Addr) (c0 c1 : Nat) (l0 l1 : List Int) (w : World) (h0 : Kd.V (Kd.int .u8) 5 w w.heap.size P0 (.slice A0 l0.length c0) l0) (h1 : Kd.V (Kd.int .u8) 5 w w.heap.size P1 (.slice A1 l1.length c1) l1) (u0 : u8s l0) (u1 : u8s l1) (hl0 : l0.length ≤ 100) (hl1 : l1.length ≤ 100)
    (la lb : List (List Int)) (ha : cutsOf m l0 = la) (hb : cutsOf m l1 = lb) (hla : la.length ≤ 100) (hlb : lb.length ≤ 100) (hta : ∀ t, t ∈ la ++ lb → t.length < 140737488355328) (x y u v : List Int) (hx : xsOf la lb = x) (hy : ysOf la lb = y) (hu : trim_Mid.x x y = u) (hv : trim_Mid.y x y = v) :
    Calls Tryz.prog 45 #[.int .i64 (modeOf m), .slice A0 l0.length c0, .slice A1 l1.length c1] w fun e w' => ∃ Aa Ab Ax Ay Au Av ca cb cx cy cu cv, e = .returned (.tuple #[.agg #[.slice Aa la.length ca, .slice Ab lb.length cb, .slice Ax x.length cx, .slice Ay y.length cy, .int .i64 (trim_Of.p x y : Nat), .int .i64 (trim_Of.s x y : Nat), .slice Au u.length cu, .slice Av v.length cv], .int .i64 0]) ∧ TaskC w' la lb x y u v Aa Ab Ax Ay Au Av ca cb cx cy cu cv ∧ Below w.heap.size w w' := by
  have T0 := Aside0.mk (fun W (hbl : Below w.heap.size w W) => tok_Cut.calls 101 (modeOf m) P0 A0 c0 l0 la 0 W (Kd.V_below h0 hbl) (by rw [tok_Cut_eq m l0 u0 (by omega) 101 (by omega), ha]))
  have T1 := Aside0.mk (fun W (hbl : Below w.heap.size w W) => tok_Cut.calls 101 (modeOf m) P1 A1 c1 l1 lb 0 W (Kd.V_below h1 hbl) (by rw [tok_Cut_eq m l1 u1 (by omega) 101 (by omega), hb]))
  have NT := Aside0.mk (fun W (Aa Ab : Option Addr) (ca cb : Nat) (ha : Kd.C (Kd.slice 5 (Kd.int .u8)) W Aa la.length la) (hb : Kd.C (Kd.slice 5 (Kd.int .u8)) W Ab lb.length lb) => names_Two.calls Aa ca la Ab cb lb x y _ W ha hb (by rw [names_some la lb (by omega) hta, hx, hy]))
  have lx : Aside0 (x.length ≤ 100 ∧ y.length ≤ 100) := ⟨by rw [← hx, ← hy]; simp only [xsOf, ysOf, List.length_map]; exact ⟨hla, hlb⟩⟩
  have TM := Aside0.mk (fun W (Ax Ay : Option Addr) (cx cy : Nat) hr0 hc0 hr1 hc1 => trim_Mid.calls Ax cx x Ay cy y W hr0 hc0 hr1 hc1 (by have := lx.out.1; omega) (by have := lx.out.2; omega))
  rw [hu, hv] at TM
  have TO := Aside0.mk (fun W (Ax Ay : Option Addr) (cx cy : Nat) hr0 hc0 hr1 hc1 => trim_Of.calls Ax cx x Ay cy y W hr0 hc0 hr1 hc1 (by have := lx.out.1; omega) (by have := lx.out.2; omega))
  generalize trim_Of.p x y = p at TO ⊢
  generalize trim_Of.s x y = s at TO ⊢
  generalize modeOf m = mm at T0 T1 ⊢
  clear h0 h1 u0 u1 hl0 hl1 ha hb hla hlb hta hx hy hu hv lx
  go_enter Tryz.func45, Tryz.ntmps45
  go_upto_region 3 with fail
  obtain ⟨k0, k1⟩ := alloc2 w (Obj.cells #[.slice none 0 0, .slice none 0 0, .slice none 0 0, .slice none 0 0, .int .i64 0, .int .i64 0, .slice none 0 0, .slice none 0 0] 81) (Obj.cells #[.slice none 0 0, .slice none 0 0, .slice none 0 0, .slice none 0 0, .int .i64 0, .int .i64 0, .slice none 0 0, .slice none 0 0] 81)
  have HB := Aside0.mk (below_alloc (below_alloc (Below.refl w.heap.size w) (Obj.cells #[.slice none 0 0, .slice none 0 0, .slice none 0 0, .slice none 0 0, .int .i64 0, .int .i64 0, .slice none 0 0, .slice none 0 0] 81)) (Obj.cells #[.slice none 0 0, .slice none 0 0, .slice none 0 0, .slice none 0 0, .int .i64 0, .int .i64 0, .slice none 0 0, .slice none 0 0] 81))
  have HL := Aside0.mk (show w.heap.size < w.heap.size + 1 from Nat.lt_succ_self w.heap.size)
  have K6 := Aside0.mk k0
  have K8 := Aside0.mk k1
  clear k0 k1
  generalize (w.alloc (Obj.cells #[.slice none 0 0, .slice none 0 0, .slice none 0 0, .slice none 0 0, .int .i64 0, .int .i64 0, .slice none 0 0, .slice none 0 0] 81)).alloc (Obj.cells #[.slice none 0 0, .slice none 0 0, .slice none 0 0, .slice none 0 0, .int .i64 0, .int .i64 0, .slice none 0 0, .slice none 0 0] 81) = w1 at K6 K8 HB ⊢
  generalize w.heap.size + 1 = g8 at K8 HL ⊢
  go_upto_region 4 with (go_at_call 84; ((with_reducible refine (T0.out _ HB.out).mono ?_); rintro e w2 ⟨va, rfl, hs, hbl⟩; obtain ⟨Aa, ca, rfl⟩ := Kd.S_slice hs; have n0_ := Aside0.mk (below_step HB.out hbl); have n6_ := Aside0.mk (blk_below K6.out hbl); have n8_ := Aside0.mk (blk_below K8.out hbl); clear HB K6 K8  hbl; have HB := n0_; have K6 := n6_; have K8 := n8_; clear n0_ n6_ n8_; have HSA := Aside0.mk hs; clear hs; have hf0 := blk_frozen K8.out 0; have hs0 := (blk_cell K8.out 0).trans (show _ = some (.slice none 0 0) from rfl)))
  clear hf0 hs0
  have n0_ := Aside0.mk (below_set (g := g8) (j := 0) (v := .slice Aa la.length ca) HB.out (by have := HL.out; omega))
  have n6_ := Aside0.mk (blk_far K6.out (p := ⟨g8, 0, none⟩) (by have := HL.out; exact Nat.ne_of_lt this) (.slice Aa la.length ca))
  have n8_ := Aside0.mk (show (w2.setCell ⟨g8, 0, none⟩ (.slice Aa la.length ca)).heap[g8]? = some (.cells #[.slice Aa la.length ca, .slice none 0 0, .slice none 0 0, .slice none 0 0, .int .i64 0, .int .i64 0, .slice none 0 0, .slice none 0 0] 81 (0, 0)) from blk_set K8.out 0 _)
  have mHSA := Aside0.mk (Kd.S_set HSA.out K8.out (by decide) 0 (.slice Aa la.length ca))
  clear HB K6 K8 HSA
  have HB := n0_
  have K6 := n6_
  have K8 := n8_
  clear n0_ n6_ n8_
  have HSA := mHSA
  clear mHSA
  generalize w2.setCell ⟨g8, 0, none⟩ (.slice Aa la.length ca) = w3 at HB K6 K8 HSA ⊢
  go_upto_region 7 with (go_at_call 84; ((with_reducible refine (T1.out _ HB.out).mono ?_); rintro e w4 ⟨vb, rfl, hs, hbl⟩; obtain ⟨Ab, cb, rfl⟩ := Kd.S_slice hs; have n0_ := Aside0.mk (below_step HB.out hbl); have n6_ := Aside0.mk (blk_below K6.out hbl); have n8_ := Aside0.mk (blk_below K8.out hbl); have mHSA := Aside0.mk (Kd.S_below HSA.out hbl); clear HB K6 K8 HSA hbl; have HB := n0_; have K6 := n6_; have K8 := n8_; clear n0_ n6_ n8_; have HSA := mHSA; clear mHSA; have HSB := Aside0.mk hs; clear hs; have hf1 := blk_frozen K8.out 1; have hs1 := (blk_cell K8.out 1).trans (show _ = some (.slice none 0 0) from rfl)))
  clear hf1 hs1
  have n0_ := Aside0.mk (below_set (g := g8) (j := 1) (v := .slice Ab lb.length cb) HB.out (by have := HL.out; omega))
  have n6_ := Aside0.mk (blk_far K6.out (p := ⟨g8, 1, none⟩) (by have := HL.out; exact Nat.ne_of_lt this) (.slice Ab lb.length cb))
  have n8_ := Aside0.mk (show (w4.setCell ⟨g8, 1, none⟩ (.slice Ab lb.length cb)).heap[g8]? = some (.cells #[.slice Aa la.length ca, .slice Ab lb.length cb, .slice none 0 0, .slice none 0 0, .int .i64 0, .int .i64 0, .slice none 0 0, .slice none 0 0] 81 (0, 0)) from blk_set K8.out 1 _)
  have mHSA := Aside0.mk (Kd.S_set HSA.out K8.out (by decide) 1 (.slice Ab lb.length cb))
  have mHSB := Aside0.mk (Kd.S_set HSB.out K8.out (by decide) 1 (.slice Ab lb.length cb))
  clear HB K6 K8 HSA HSB
  have HB := n0_
  have K6 := n6_
  have K8 := n8_
  clear n0_ n6_ n8_
  have HSA := mHSA
  clear mHSA
  have HSB := mHSB
  clear mHSB
  generalize w4.setCell ⟨g8, 1, none⟩ (.slice Ab lb.length cb) = w5 at HB K6 K8 HSA HSB ⊢
  have hz0 := (blk_cell K8.out 0).trans (show _ = some (.slice Aa la.length ca) from rfl)
  have hz1 := (blk_cell K8.out 1).trans (show _ = some (.slice Ab lb.length cb) from rfl)
  go_upto_region 8 with (go_at_call 80; ((with_reducible refine (NT.out _ Aa Ab ca cb (Kd.S_reads' HSA.out).2.2 (Kd.S_reads' HSB.out).2.2).mono ?_); rintro e w6 ⟨vx, vy, rfl, hx, hy, hbl⟩; obtain ⟨Ax, cx, rfl⟩ := Kd.R_slice hx; obtain ⟨Ay, cy, rfl⟩ := Kd.R_slice hy; have n0_ := Aside0.mk (below_step HB.out hbl); have n6_ := Aside0.mk (blk_below K6.out hbl); have n8_ := Aside0.mk (blk_below K8.out hbl); have mHSA := Aside0.mk (Kd.S_below HSA.out hbl); have mHSB := Aside0.mk (Kd.S_below HSB.out hbl); clear HB K6 K8 HSA HSB hbl; have HB := n0_; have K6 := n6_; have K8 := n8_; clear n0_ n6_ n8_; have HSA := mHSA; clear mHSA; have HSB := mHSB; clear mHSB; have HRX := Aside0.mk hx; have HRY := Aside0.mk hy; clear hx hy hz0 hz1; have hf2 := blk_frozen K8.out 2; have hs2 := (blk_cell K8.out 2).trans (show _ = some (.slice none 0 0) from rfl); have hf3 := blk_frozen K8.out 3; have hs3 := (blk_cell K8.out 3).trans (show _ = some (.slice none 0 0) from rfl)))
  clear hf2 hf3 hs2 hs3
  have n0_ := Aside0.mk (below_set (g := g8) (j := 2) (v := .slice Ax x.length cx) HB.out (by have := HL.out; omega))
  have n6_ := Aside0.mk (blk_far K6.out (p := ⟨g8, 2, none⟩) (by have := HL.out; exact Nat.ne_of_lt this) (.slice Ax x.length cx))
  have n8_ := Aside0.mk (show (w6.setCell ⟨g8, 2, none⟩ (.slice Ax x.length cx)).heap[g8]? = some (.cells #[.slice Aa la.length ca, .slice Ab lb.length cb, .slice Ax x.length cx, .slice none 0 0, .int .i64 0, .int .i64 0, .slice none 0 0, .slice none 0 0] 81 (0, 0)) from blk_set K8.out 2 _)
  have mHSA := Aside0.mk (Kd.S_set HSA.out K8.out (by decide) 2 (.slice Ax x.length cx))
  have mHSB := Aside0.mk (Kd.S_set HSB.out K8.out (by decide) 2 (.slice Ax x.length cx))
  have mHRX := Aside0.mk (Kd.R_set HRX.out K8.out (by decide) 2 (.slice Ax x.length cx))
  have mHRY := Aside0.mk (Kd.R_set HRY.out K8.out (by decide) 2 (.slice Ax x.length cx))
  clear HB K6 K8 HSA HSB HRX HRY
  have HB := n0_
  have K6 := n6_
  have K8 := n8_
  clear n0_ n6_ n8_
  have HSA := mHSA
  clear mHSA
  have HSB := mHSB
  clear mHSB
  have HRX := mHRX
  clear mHRX
  have HRY := mHRY
  clear mHRY
  generalize w6.setCell ⟨g8, 2, none⟩ (.slice Ax x.length cx) = w7 at HB K6 K8 HSA HSB HRX HRY ⊢
  have n0_ := Aside0.mk (below_set (g := g8) (j := 3) (v := .slice Ay y.length cy) HB.out (by have := HL.out; omega))
  have n6_ := Aside0.mk (blk_far K6.out (p := ⟨g8, 3, none⟩) (by have := HL.out; exact Nat.ne_of_lt this) (.slice Ay y.length cy))
  have n8_ := Aside0.mk (show (w7.setCell ⟨g8, 3, none⟩ (.slice Ay y.length cy)).heap[g8]? = some (.cells #[.slice Aa la.length ca, .slice Ab lb.length cb, .slice Ax x.length cx, .slice Ay y.length cy, .int .i64 0, .int .i64 0, .slice none 0 0, .slice none 0 0] 81 (0, 0)) from blk_set K8.out 3 _)
  have mHSA := Aside0.mk (Kd.S_set HSA.out K8.out (by decide) 3 (.slice Ay y.length cy))
  have mHSB := Aside0.mk (Kd.S_set HSB.out K8.out (by decide) 3 (.slice Ay y.length cy))
  have mHRX := Aside0.mk (Kd.R_set HRX.out K8.out (by decide) 3 (.slice Ay y.length cy))
  have mHRY := Aside0.mk (Kd.R_set HRY.out K8.out (by decide) 3 (.slice Ay y.length cy))
  clear HB K6 K8 HSA HSB HRX HRY
  have HB := n0_
  have K6 := n6_
  have K8 := n8_
  clear n0_ n6_ n8_
  have HSA := mHSA
  clear mHSA
  have HSB := mHSB
  clear mHSB
  have HRX := mHRX
  clear mHRX
  have HRY := mHRY
  clear mHRY
  generalize w7.setCell ⟨g8, 3, none⟩ (.slice Ay y.length cy) = w8 at HB K6 K8 HSA HSB HRX HRY ⊢
  have hz2 := (blk_cell K8.out 2).trans (show _ = some (.slice Ax x.length cx) from rfl)
  have hz3 := (blk_cell K8.out 3).trans (show _ = some (.slice Ay y.length cy) from rfl)
  go_upto_region 9 with (go_at_call 85; ((with_reducible refine (TO.out _ Ax Ay cx cy (Kd.R_reads' HRX.out).2.2 (Kd.R_reads' HRX.out).2.1 (Kd.R_reads' HRY.out).2.2 (Kd.R_reads' HRY.out).2.1).mono ?_); rintro e w9 ⟨rfl, hbl⟩; have n0_ := Aside0.mk (below_step HB.out hbl); have n6_ := Aside0.mk (blk_below K6.out hbl); have n8_ := Aside0.mk (blk_below K8.out hbl); have mHSA := Aside0.mk (Kd.S_below HSA.out hbl); have mHSB := Aside0.mk (Kd.S_below HSB.out hbl); have mHRX := Aside0.mk (Kd.R_below HRX.out hbl); have mHRY := Aside0.mk (Kd.R_below HRY.out hbl); clear HB K6 K8 HSA HSB HRX HRY hbl; have HB := n0_; have K6 := n6_; have K8 := n8_; clear n0_ n6_ n8_; have HSA := mHSA; clear mHSA; have HSB := mHSB; clear mHSB; have HRX := mHRX; clear mHRX; have HRY := mHRY; clear mHRY; clear hz2 hz3; have hf4 := blk_frozen K8.out 4; have hs4 := (blk_cell K8.out 4).trans (show _ = some (.int .i64 0) from rfl); have hf5 := blk_frozen K8.out 5; have hs5 := (blk_cell K8.out 5).trans (show _ = some (.int .i64 0) from rfl)))
  clear hf4 hf5 hs4 hs5
  have n0_ := Aside0.mk (below_set (g := g8) (j := 4) (v := .int .i64 (p : Int)) HB.out (by have := HL.out; omega))
  have n6_ := Aside0.mk (blk_far K6.out (p := ⟨g8, 4, none⟩) (by have := HL.out; exact Nat.ne_of_lt this) (.int .i64 (p : Int)))
  have n8_ := Aside0.mk (show (w9.setCell ⟨g8, 4, none⟩ (.int .i64 (p : Int))).heap[g8]? = some (.cells #[.slice Aa la.length ca, .slice Ab lb.length cb, .slice Ax x.length cx, .slice Ay y.length cy, .int .i64 (p : Int), .int .i64 0, .slice none 0 0, .slice none 0 0] 81 (0, 0)) from blk_set K8.out 4 _)
  have mHSA := Aside0.mk (Kd.S_set HSA.out K8.out (by decide) 4 (.int .i64 (p : Int)))
  have mHSB := Aside0.mk (Kd.S_set HSB.out K8.out (by decide) 4 (.int .i64 (p : Int)))
  have mHRX := Aside0.mk (Kd.R_set HRX.out K8.out (by decide) 4 (.int .i64 (p : Int)))
  have mHRY := Aside0.mk (Kd.R_set HRY.out K8.out (by decide) 4 (.int .i64 (p : Int)))
  clear HB K6 K8 HSA HSB HRX HRY
  have HB := n0_
  have K6 := n6_
  have K8 := n8_
  clear n0_ n6_ n8_
  have HSA := mHSA
  clear mHSA
  have HSB := mHSB
  clear mHSB
  have HRX := mHRX
  clear mHRX
  have HRY := mHRY
  clear mHRY
  generalize w9.setCell ⟨g8, 4, none⟩ (.int .i64 (p : Int)) = w10 at HB K6 K8 HSA HSB HRX HRY ⊢
  have n0_ := Aside0.mk (below_set (g := g8) (j := 5) (v := .int .i64 (s : Int)) HB.out (by have := HL.out; omega))
  have n6_ := Aside0.mk (blk_far K6.out (p := ⟨g8, 5, none⟩) (by have := HL.out; exact Nat.ne_of_lt this) (.int .i64 (s : Int)))
  have n8_ := Aside0.mk (show (w10.setCell ⟨g8, 5, none⟩ (.int .i64 (s : Int))).heap[g8]? = some (.cells #[.slice Aa la.length ca, .slice Ab lb.length cb, .slice Ax x.length cx, .slice Ay y.length cy, .int .i64 (p : Int), .int .i64 (s : Int), .slice none 0 0, .slice none 0 0] 81 (0, 0)) from blk_set K8.out 5 _)
  have mHSA := Aside0.mk (Kd.S_set HSA.out K8.out (by decide) 5 (.int .i64 (s : Int)))
  have mHSB := Aside0.mk (Kd.S_set HSB.out K8.out (by decide) 5 (.int .i64 (s : Int)))
  have mHRX := Aside0.mk (Kd.R_set HRX.out K8.out (by decide) 5 (.int .i64 (s : Int)))
  have mHRY := Aside0.mk (Kd.R_set HRY.out K8.out (by decide) 5 (.int .i64 (s : Int)))
  clear HB K6 K8 HSA HSB HRX HRY
  have HB := n0_
  have K6 := n6_
  have K8 := n8_
  clear n0_ n6_ n8_
  have HSA := mHSA
  clear mHSA
  have HSB := mHSB
  clear mHSB
  have HRX := mHRX
  clear mHRX
  have HRY := mHRY
  clear mHRY
  generalize w10.setCell ⟨g8, 5, none⟩ (.int .i64 (s : Int)) = w11 at HB K6 K8 HSA HSB HRX HRY ⊢
  have hz2 := (blk_cell K8.out 2).trans (show _ = some (.slice Ax x.length cx) from rfl)
  have hz3 := (blk_cell K8.out 3).trans (show _ = some (.slice Ay y.length cy) from rfl)
  go_upto_region 10 with (go_at_call 86; ((with_reducible refine (TM.out _ Ax Ay cx cy (Kd.R_reads' HRX.out).2.2 (Kd.R_reads' HRX.out).2.1 (Kd.R_reads' HRY.out).2.2 (Kd.R_reads' HRY.out).2.1).mono ?_); rintro e w12 ⟨vu, vv, rfl, hx, hy, hbl⟩; obtain ⟨Au, cu, rfl⟩ := Kd.R_slice hx; obtain ⟨Av, cv, rfl⟩ := Kd.R_slice hy; have n0_ := Aside0.mk (below_step HB.out hbl); have n6_ := Aside0.mk (blk_below K6.out hbl); have n8_ := Aside0.mk (blk_below K8.out hbl); have mHSA := Aside0.mk (Kd.S_below HSA.out hbl); have mHSB := Aside0.mk (Kd.S_below HSB.out hbl); have mHRX := Aside0.mk (Kd.R_below HRX.out hbl); have mHRY := Aside0.mk (Kd.R_below HRY.out hbl); clear HB K6 K8 HSA HSB HRX HRY hbl; have HB := n0_; have K6 := n6_; have K8 := n8_; clear n0_ n6_ n8_; have HSA := mHSA; clear mHSA; have HSB := mHSB; clear mHSB; have HRX := mHRX; clear mHRX; have HRY := mHRY; clear mHRY; have HRU := Aside0.mk hx; have HRV := Aside0.mk hy; clear hx hy hz2 hz3; have hf6 := blk_frozen K8.out 6; have hs6 := (blk_cell K8.out 6).trans (show _ = some (.slice none 0 0) from rfl); have hf7 := blk_frozen K8.out 7; have hs7 := (blk_cell K8.out 7).trans (show _ = some (.slice none 0 0) from rfl)))
  clear hf6 hf7 hs6 hs7
  have n0_ := Aside0.mk (below_set (g := g8) (j := 6) (v := .slice Au u.length cu) HB.out (by have := HL.out; omega))
  have n6_ := Aside0.mk (blk_far K6.out (p := ⟨g8, 6, none⟩) (by have := HL.out; exact Nat.ne_of_lt this) (.slice Au u.length cu))
  have n8_ := Aside0.mk (show (w12.setCell ⟨g8, 6, none⟩ (.slice Au u.length cu)).heap[g8]? = some (.cells #[.slice Aa la.length ca, .slice Ab lb.length cb, .slice Ax x.length cx, .slice Ay y.length cy, .int .i64 (p : Int), .int .i64 (s : Int), .slice Au u.length cu, .slice none 0 0] 81 (0, 0)) from blk_set K8.out 6 _)
  have mHSA := Aside0.mk (Kd.S_set HSA.out K8.out (by decide) 6 (.slice Au u.length cu))
  have mHSB := Aside0.mk (Kd.S_set HSB.out K8.out (by decide) 6 (.slice Au u.length cu))
  have mHRX := Aside0.mk (Kd.R_set HRX.out K8.out (by decide) 6 (.slice Au u.length cu))
  have mHRY := Aside0.mk (Kd.R_set HRY.out K8.out (by decide) 6 (.slice Au u.length cu))
  have mHRU := Aside0.mk (Kd.R_set HRU.out K8.out (by decide) 6 (.slice Au u.length cu))
  have mHRV := Aside0.mk (Kd.R_set HRV.out K8.out (by decide) 6 (.slice Au u.length cu))
  clear HB K6 K8 HSA HSB HRX HRY HRU HRV
  have HB := n0_
  have K6 := n6_
  have K8 := n8_
  clear n0_ n6_ n8_
  have HSA := mHSA
  clear mHSA
  have HSB := mHSB
  clear mHSB
  have HRX := mHRX
  clear mHRX
  have HRY := mHRY
  clear mHRY
  have HRU := mHRU
  clear mHRU
  have HRV := mHRV
  clear mHRV
  generalize w12.setCell ⟨g8, 6, none⟩ (.slice Au u.length cu) = w13 at HB K6 K8 HSA HSB HRX HRY HRU HRV ⊢
  have n0_ := Aside0.mk (below_set (g := g8) (j := 7) (v := .slice Av v.length cv) HB.out (by have := HL.out; omega))
  have n6_ := Aside0.mk (blk_far K6.out (p := ⟨g8, 7, none⟩) (by have := HL.out; exact Nat.ne_of_lt this) (.slice Av v.length cv))
  have n8_ := Aside0.mk (show (w13.setCell ⟨g8, 7, none⟩ (.slice Av v.length cv)).heap[g8]? = some (.cells #[.slice Aa la.length ca, .slice Ab lb.length cb, .slice Ax x.length cx, .slice Ay y.length cy, .int .i64 (p : Int), .int .i64 (s : Int), .slice Au u.length cu, .slice Av v.length cv] 81 (0, 0)) from blk_set K8.out 7 _)
  have mHSA := Aside0.mk (Kd.S_set HSA.out K8.out (by decide) 7 (.slice Av v.length cv))
  have mHSB := Aside0.mk (Kd.S_set HSB.out K8.out (by decide) 7 (.slice Av v.length cv))
  have mHRX := Aside0.mk (Kd.R_set HRX.out K8.out (by decide) 7 (.slice Av v.length cv))
  have mHRY := Aside0.mk (Kd.R_set HRY.out K8.out (by decide) 7 (.slice Av v.length cv))
  have mHRU := Aside0.mk (Kd.R_set HRU.out K8.out (by decide) 7 (.slice Av v.length cv))
  have mHRV := Aside0.mk (Kd.R_set HRV.out K8.out (by decide) 7 (.slice Av v.length cv))
  clear HB K6 K8 HSA HSB HRX HRY HRU HRV
  have HB := n0_
  have K6 := n6_
  have K8 := n8_
  clear n0_ n6_ n8_
  have HSA := mHSA
  clear mHSA
  have HSB := mHSB
  clear mHSB
  have HRX := mHRX
  clear mHRX
  have HRY := mHRY
  clear mHRY
  have HRU := mHRU
  clear mHRU
  have HRV := mHRV
  clear mHRV
  generalize w13.setCell ⟨g8, 7, none⟩ (.slice Av v.length cv) = w14 at HB K6 K8 HSA HSB HRX HRY HRU HRV ⊢
  have hz0 := (blk_cell K8.out 0).trans (show _ = some (.slice Aa la.length ca) from rfl)
  have hz1 := (blk_cell K8.out 1).trans (show _ = some (.slice Ab lb.length cb) from rfl)
  have hz2 := (blk_cell K8.out 2).trans (show _ = some (.slice Ax x.length cx) from rfl)
  have hz3 := (blk_cell K8.out 3).trans (show _ = some (.slice Ay y.length cy) from rfl)
  have hz4 := (blk_cell K8.out 4).trans (show _ = some (.int .i64 (p : Int)) from rfl)
  have hz5 := (blk_cell K8.out 5).trans (show _ = some (.int .i64 (s : Int)) from rfl)
  have hz6 := (blk_cell K8.out 6).trans (show _ = some (.slice Au u.length cu) from rfl)
  have hz7 := (blk_cell K8.out 7).trans (show _ = some (.slice Av v.length cv) from rfl)
  have hy0 := (blk_cell K6.out 0).trans (show _ = some (.slice none 0 0) from rfl)
  have hg0 := blk_frozen K6.out 0
  have hy1 := (blk_cell K6.out 1).trans (show _ = some (.slice none 0 0) from rfl)
  have hg1 := blk_frozen K6.out 1
  have hy2 := (blk_cell K6.out 2).trans (show _ = some (.slice none 0 0) from rfl)
  have hg2 := blk_frozen K6.out 2
  have hy3 := (blk_cell K6.out 3).trans (show _ = some (.slice none 0 0) from rfl)
  have hg3 := blk_frozen K6.out 3
  have hy4 := (blk_cell K6.out 4).trans (show _ = some (.int .i64 0) from rfl)
  have hg4 := blk_frozen K6.out 4
  have hy5 := (blk_cell K6.out 5).trans (show _ = some (.int .i64 0) from rfl)
  have hg5 := blk_frozen K6.out 5
  have hy6 := (blk_cell K6.out 6).trans (show _ = some (.slice none 0 0) from rfl)
  have hg6 := blk_frozen K6.out 6
  have hy7 := (blk_cell K6.out 7).trans (show _ = some (.slice none 0 0) from rfl)
  have hg7 := blk_frozen K6.out 7
  have mHSA := Aside0.mk (R_puts (by decide) [(0, .slice Aa la.length ca), (1, .slice Ab lb.length cb), (2, .slice Ax x.length cx), (3, .slice Ay y.length cy), (4, .int .i64 (p : Int)), (5, .int .i64 (s : Int)), (6, .slice Au u.length cu), (7, .slice Av v.length cv)] (Kd.S_R HSA.out) K6.out)
  have mHSB := Aside0.mk (R_puts (by decide) [(0, .slice Aa la.length ca), (1, .slice Ab lb.length cb), (2, .slice Ax x.length cx), (3, .slice Ay y.length cy), (4, .int .i64 (p : Int)), (5, .int .i64 (s : Int)), (6, .slice Au u.length cu), (7, .slice Av v.length cv)] (Kd.S_R HSB.out) K6.out)
  have mHRX := Aside0.mk (R_puts (by decide) [(0, .slice Aa la.length ca), (1, .slice Ab lb.length cb), (2, .slice Ax x.length cx), (3, .slice Ay y.length cy), (4, .int .i64 (p : Int)), (5, .int .i64 (s : Int)), (6, .slice Au u.length cu), (7, .slice Av v.length cv)] HRX.out K6.out)
  have mHRY := Aside0.mk (R_puts (by decide) [(0, .slice Aa la.length ca), (1, .slice Ab lb.length cb), (2, .slice Ax x.length cx), (3, .slice Ay y.length cy), (4, .int .i64 (p : Int)), (5, .int .i64 (s : Int)), (6, .slice Au u.length cu), (7, .slice Av v.length cv)] HRY.out K6.out)
  have mHRU := Aside0.mk (R_puts (by decide) [(0, .slice Aa la.length ca), (1, .slice Ab lb.length cb), (2, .slice Ax x.length cx), (3, .slice Ay y.length cy), (4, .int .i64 (p : Int)), (5, .int .i64 (s : Int)), (6, .slice Au u.length cu), (7, .slice Av v.length cv)] HRU.out K6.out)
  have mHRV := Aside0.mk (R_puts (by decide) [(0, .slice Aa la.length ca), (1, .slice Ab lb.length cb), (2, .slice Ax x.length cx), (3, .slice Ay y.length cy), (4, .int .i64 (p : Int)), (5, .int .i64 (s : Int)), (6, .slice Au u.length cu), (7, .slice Av v.length cv)] HRV.out K6.out)
  have HB2 := Aside0.mk (below_puts (Nat.le_refl _) [(0, .slice Aa la.length ca), (1, .slice Ab lb.length cb), (2, .slice Ax x.length cx), (3, .slice Ay y.length cy), (4, .int .i64 (p : Int)), (5, .int .i64 (s : Int)), (6, .slice Au u.length cu), (7, .slice Av v.length cv)] HB.out)
  go_wp2_with fail
  refine bodyPost_ret (v := .tuple #[.agg #[.slice Aa la.length ca, .slice Ab lb.length cb, .slice Ax x.length cx, .slice Ay y.length cy, .int .i64 (p : Int), .int .i64 (s : Int), .slice Au u.length cu, .slice Av v.length cv], .int .i64 0]) (by simp [results, Tryz.results45, go_sem, hy0, hg0, hy1, hg1, hy2, hg2, hy3, hg3, hy4, hg4, hy5, hg5, hy6, hg6, hy7, hg7]) rfl ⟨Aa, Ab, Ax, Ay, Au, Av, ca, cb, cx, cy, cu, cv, rfl, ⟨Kd.R_lower (Kd.R_mono mHSA.out (fun _ _ => trivial)) (Nat.zero_le _), Kd.R_lower (Kd.R_mono mHSB.out (fun _ _ => trivial)) (Nat.zero_le _), Kd.R_lower (Kd.R_mono mHRX.out (fun _ _ => trivial)) (Nat.zero_le _), Kd.R_lower (Kd.R_mono mHRY.out (fun _ _ => trivial)) (Nat.zero_le _), Kd.R_lower (Kd.R_mono mHRU.out (fun _ _ => trivial)) (Nat.zero_le _), Kd.R_lower (Kd.R_mono mHRV.out (fun _ _ => trivial)) (Nat.zero_le _)⟩, HB2.out⟩
end Go.Proofs.YtdiojfaenfggkaaGreat.PTopNear
namespace Go.Proofs.YtdiojfaenfggkaaGreat.PTopNear
open Go.RowKit Go.Proofs.YtdiojfaenfggkaaGreatW.PrintWords Go.Proofs.YtdiojfaenfggkaaGreatW.PrintLast Go.Proofs.YtdiojfaenfggkaaGreatW.PrintMore
attribute [local go_sem] max2_int min2_int max_two min_two max_three min_three max_four min_four
set_option linter.unusedVariables false
set_option linter.unusedSimpArgs false
theorem lines_count : ∀ (b : List Int), u8s b → ((lines b).length : Int) = (Lib.countByte (Lib.bytesOf b) (10 : Int).toNat.toUInt8 : Nat) + (if b = [] then 0 else if b.getD (b.length - 1) 0 = 10 then 0 else 1)
  | [], _ => rfl
  | [c], h => by
    have hc := ten_iff c (h c List.mem_cons_self)
    have e : Lib.bytesOf [c] = [UInt8.ofNat c.toNat] := rfl
    rw [e]
    unfold Lib.countByte
    rw [List.count_cons, hc]
    by_cases c10 : c = 10
    · subst c10; rfl
    · simp [lines, c10]
  | c :: d :: t, h => by
    have ih := lines_count (d :: t) (fun x hx => h x (List.mem_cons_of_mem _ hx))
    have hc := ten_iff c (h c List.mem_cons_self)
    have e : Lib.bytesOf (c :: d :: t) = UInt8.ofNat c.toNat :: Lib.bytesOf (d :: t) := rfl
    have elast : (c :: d :: t).getD ((c :: d :: t).length - 1) 0 = (d :: t).getD ((d :: t).length - 1) 0 := by
      simp [List.getD_eq_getElem?_getD]
    rw [e, elast]
    unfold Lib.countByte at ih ⊢
    rw [List.count_cons, hc]
    have hh : ∀ (x y : Int), (if c :: d :: t = [] then x else y) = y := fun x y => if_neg (by simp)
    rw [if_neg (by simp)] at ih
    rw [hh]
    by_cases c10 : c = 10
    · rw [lines, if_pos c10, decide_eq_true c10, if_pos rfl, List.length_cons]
      rw [Int.natCast_add, Int.natCast_add, ih]; omega
    · have hne : lines (d :: t) ≠ [] := by
        rw [lines_eq _ (by simp)]; simp
      rw [lines, if_neg c10, decide_eq_false c10, if_neg (by decide), Nat.add_zero, ← ih]
      revert hne
      cases lines (d :: t) with
      | nil => intro h; exact absurd rfl h
      | cons l ls => intro _; rfl
theorem cutsOf_length (m : Bool) (b : List Int) : (cutsOf m b).length ≤ b.length := by
  unfold cutsOf; split
  · exact lines_length b
  · simp
theorem tok_Count_eq (m : Bool) (b : List Int) (hu : u8s b) (hb : b.length ≤ 100000) : tok_Count.f (modeOf m) b = some (((cutsOf m b).length : Int), 0) := by
  cases m with
  | false =>
    show (if (0 : Int) = 0 then some ((b.length : Int), (0 : Int)) else _) = some (((b.map fun c => [c]).length : Int), 0)
    rw [if_pos rfl]; simp
  | true =>
    have hc := lines_count b hu
    have hl := lines_length b
    have hlt : ((lines b).length : Int) ≤ b.length := by omega
    show tok_Count.f 1 b = some (((lines b).length : Int), 0)
    unfold tok_Count.f bytes_Count.f
    rw [if_neg (by decide), if_pos rfl]
    dsimp only
    rw [bs]
    by_cases h0 : b = []
    · subst h0; rfl
    · have hpos : 0 < b.length := List.length_pos_iff.2 h0
      have e1 : rd b ((b.length : Int) - 1) = b.getD (b.length - 1) 0 := rd_at (by omega)
      rw [if_neg h0] at hc
      rw [if_pos (by omega), wr (x := (b.length : Int) - 1) (by omega) (by omega), if_pos (by omega), if_pos (by omega), e1]
      by_cases c : b.getD (b.length - 1) 0 = 10
      · rw [if_pos c] at hc ⊢
        rw [hc]; simp
      · rw [if_neg c] at hc ⊢
        rw [wr (by omega) (by omega), hc]
theorem cutsOf_tok {m : Bool} {b t : List Int} (h : t ∈ cutsOf m b) : t.length ≤ b.length := by
  have h1 := cutsOf_flatten m b
  have h2 : t.length ≤ (cutsOf m b).flatten.length := by
    obtain ⟨l1, l2, e⟩ := List.append_of_mem h
    rw [e]
    simp only [List.flatten_append, List.flatten_cons, List.length_append]
    omega
  rwa [h1] at h2
theorem dedB_le : ∀ l : List (List UInt8), (dedB l).length ≤ l.length
  | [] => Nat.le_refl _
  | b :: r => by
    unfold dedB
    have := dedB_le r
    split <;> simp only [List.length_cons] <;> omega
theorem rkT_le (l : List (List Int)) (t : List Int) : rkT l t ≤ l.length := by
  unfold rkT
  refine Nat.le_trans List.countP_le_length ?_
  refine Nat.le_trans (dedB_le _) ?_
  rw [List.length_map]
  exact Nat.le_refl _
theorem mid_mem (l0 l1 : List Int) : (∀ x, x ∈ trim_Mid.x l0 l1 → x ∈ l0) ∧ (∀ x, x ∈ trim_Mid.y l0 l1 → x ∈ l1) := by
  unfold trim_Mid.x trim_Mid.y
  exact ⟨fun x h => List.mem_of_mem_take (List.mem_of_mem_drop h), fun x h => List.mem_of_mem_take (List.mem_of_mem_drop h)⟩
theorem mid_len (l0 l1 : List Int) : (trim_Mid.x l0 l1).length = l0.length - trim_Of.s l0 l1 - trim_Of.p l0 l1 ∧ (trim_Mid.y l0 l1).length = l1.length - trim_Of.s l0 l1 - trim_Of.p l0 l1 := by
  unfold trim_Mid.x trim_Mid.y
  simp only [List.length_drop, List.length_take]
  omega
structure TextIn (w : World) (A : Option Addr) (c : Nat) (l : List Int) : Prop where
  v : ∃ P, Kd.V (Kd.int .u8) 5 w w.heap.size P (.slice A l.length c) l
  u : u8s l
  n : l.length ≤ 24
theorem TextIn.below {w W : World} {A : Option Addr} {c : Nat} {l : List Int} (h : TextIn w A c l) (hb : Below w.heap.size w W) : TextIn W A c l := by
  obtain ⟨P, hv⟩ := h.v
  exact ⟨⟨P, Kd.V_below hv hb⟩, h.u, h.n⟩
structure CutIs (m : Bool) (l0 l1 : List Int) (la lb : List (List Int)) (x y u v : List Int) : Prop where
  ea : cutsOf m l0 = la
  eb : cutsOf m l1 = lb
  ex : xsOf la lb = x
  ey : ysOf la lb = y
  eu : trim_Mid.x x y = u
  ev : trim_Mid.y x y = v
  na : la.length ≤ 24
  nb : lb.length ≤ 24
  nx : x.length = la.length
  ny : y.length = lb.length
  nu : u.length = x.length - trim_Of.s x y - trim_Of.p x y
  nv : v.length = y.length - trim_Of.s x y - trim_Of.p x y
  ta : ∀ t, t ∈ la → t.length ≤ 24
  tb : ∀ t, t ∈ lb → t.length ≤ 24
  wu : ∀ q, q ∈ u → (Lit.int .i64 q).wf = true
  wv : ∀ q, q ∈ v → (Lit.int .i64 q).wf = true
theorem cutIs (m : Bool) (l0 l1 : List Int) (h0 : l0.length ≤ 24) (h1 : l1.length ≤ 24) : ∃ la lb x y u v, CutIs m l0 l1 la lb x y u v := by
  have na := cutsOf_length m l0
  have nb := cutsOf_length m l1
  have hx : ∀ q, q ∈ xsOf (cutsOf m l0) (cutsOf m l1) → (Lit.int .i64 q).wf = true := fun q hq => by
    obtain ⟨t, _, rfl⟩ := List.mem_map.1 hq
    have := rkT_le (cutsOf m l0 ++ cutsOf m l1) t
    rw [List.length_append] at this
    exact wf64 (by omega) (by omega)
  have hy : ∀ q, q ∈ ysOf (cutsOf m l0) (cutsOf m l1) → (Lit.int .i64 q).wf = true := fun q hq => by
    obtain ⟨t, _, rfl⟩ := List.mem_map.1 hq
    have := rkT_le (cutsOf m l0 ++ cutsOf m l1) t
    rw [List.length_append] at this
    exact wf64 (by omega) (by omega)
  exact ⟨_, _, _, _, _, _, rfl, rfl, rfl, rfl, rfl, rfl, by omega, by omega, by simp [xsOf], by simp [ysOf], (mid_len _ _).1, (mid_len _ _).2, fun t ht => Nat.le_trans (cutsOf_tok ht) h0, fun t ht => Nat.le_trans (cutsOf_tok ht) h1, fun q hq => hx q ((mid_mem _ _).1 q hq), fun q hq => hy q ((mid_mem _ _).2 q hq)⟩
theorem port_cut.of {m : Bool} {A0 A1 : Option Addr} {c0 c1 : Nat} {l0 l1 : List Int} {la lb : List (List Int)} {x y u v : List Int} (hC : CutIs m l0 l1 la lb x y u v) (w : World) (h0 : TextIn w A0 c0 l0) (h1 : TextIn w A1 c1 l1) :
    Calls Tryz.prog 45 #[.int .i64 (modeOf m), .slice A0 l0.length c0, .slice A1 l1.length c1] w fun e w' => ∃ Aa Ab Ax Ay Au Av ca cb cx cy cu cv, e = .returned (.tuple #[.agg #[.slice Aa la.length ca, .slice Ab lb.length cb, .slice Ax x.length cx, .slice Ay y.length cy, .int .i64 (trim_Of.p x y : Nat), .int .i64 (trim_Of.s x y : Nat), .slice Au u.length cu, .slice Av v.length cv], .int .i64 0]) ∧ TaskC w' la lb x y u v Aa Ab Ax Ay Au Av ca cb cx cy cu cv ∧ Below w.heap.size w w' := by
  obtain ⟨P0, v0⟩ := h0.v
  obtain ⟨P1, v1⟩ := h1.v
  have := hC.na
  have := hC.nb
  have n0 := h0.n
  have n1 := h1.n
  exact port_cut.calls m P0 P1 A0 A1 c0 c1 l0 l1 w v0 v1 h0.u h1.u (by omega) (by omega) la lb hC.ea hC.eb (by omega) (by omega) (fun t ht => by rcases List.mem_append.1 ht with h | h; (have := hC.ta t h; omega); (have := hC.tb t h; omega)) x y u v hC.ex hC.ey hC.eu hC.ev
end Go.Proofs.YtdiojfaenfggkaaGreat.PTopNear
namespace Go.Proofs.YtdiojfaenfggkaaGreat.PTopNear
open Go.RowKit Go.Proofs.YtdiojfaenfggkaaGreatW.PrintWords Go.Proofs.YtdiojfaenfggkaaGreatW.PrintLast Go.Proofs.YtdiojfaenfggkaaGreatW.PrintMore
attribute [local go_sem] max2_int min2_int max_two min_two max_three min_three max_four min_four
set_option linter.unusedVariables false
set_option linter.unusedSimpArgs false
theorem room_small (n m s r g : Nat) (hs : Small n m s r) (hg : g = 1 ∨ g = 7 ∧ 1 ≤ m) : ¬ ((1099511627776 : Int) < (roomN g n m s r : Nat)) := by
  obtain ⟨h1, h2, h3, h4⟩ := hs
  rcases hg with rfl | ⟨rfl, _⟩
  · have := Nat.mul_le_mul (show n + 1 ≤ 25 by omega) (show m + 1 ≤ 25 by omega)
    simp only [roomN]; omega
  · have h5 := upN_le m 64 h2 (by omega) (by omega)
    have := Nat.mul_le_mul (show s + n + 1 ≤ 100 by omega) h5
    simp only [roomN]; omega
set_option maxHeartbeats 8000000 in
set_option maxRecDepth 100000 in
theorem port_ready.of {m : Bool} {A0 A1 : Option Addr} {c0 c1 : Nat} {l0 l1 : List Int} {la lb : List (List Int)} {x y u v : List Int} (hC : CutIs m l0 l1 la lb x y u v) (w : World) (h0 : TextIn w A0 c0 l0) (h1 : TextIn w A1 c1 l1) :
    Calls Tryz.prog 38 #[.int .i64 (modeOf m), .int .i64 0, .slice A0 l0.length c0, .slice A1 l1.length c1, .agg #[.int .i64 1000, .int .i64 1099511627776]] w fun e w' => ∃ Aa Ab Ax Ay Au Av ca cb cx cy cu cv, ∃ eng : Nat, e = .returned (.tuple #[.agg #[.slice Aa la.length ca, .slice Ab lb.length cb, .slice Ax x.length cx, .slice Ay y.length cy, .int .i64 (trim_Of.p x y : Nat), .int .i64 (trim_Of.s x y : Nat), .slice Au u.length cu, .slice Av v.length cv], .int .i64 (eng : Int), .int .i64 0]) ∧ (eng = 1 ∨ eng = 7 ∧ 1 ≤ v.length) ∧ TaskC w' la lb x y u v Aa Ab Ax Ay Au Av ca cb cx cy cu cv ∧ Below w.heap.size w w' := by
  have HT0 := Aside0.mk (fun W (hb : Below w.heap.size w W) => by
    obtain ⟨P0, v0⟩ := (h0.below hb).v
    have h2 := Kd.V_reads' v0
    exact tok_Count.calls (modeOf m) A0 c0 l0 (la.length : Int) 0 W h2.2.2 h2.2.1 (by rw [tok_Count_eq m l0 h0.u (by have := h0.n; omega), hC.ea]))
  have HT1 := Aside0.mk (fun W (hb : Below w.heap.size w W) => by
    obtain ⟨P0, v0⟩ := (h1.below hb).v
    have h2 := Kd.V_reads' v0
    exact tok_Count.calls (modeOf m) A1 c1 l1 (lb.length : Int) 0 W h2.2.2 h2.2.1 (by rw [tok_Count_eq m l1 h1.u (by have := h1.n; omega), hC.eb]))
  have HCU := Aside0.mk (fun W (hb : Below w.heap.size w W) => port_cut.of hC W (h0.below hb) (h1.below hb))
  have hna := hC.na
  have hnb := hC.nb
  have hun : u.length ≤ 24 := by have := hC.nu; have := hC.nx; omega
  have hvn : v.length ≤ 24 := by have := hC.nv; have := hC.ny; omega
  have HS : Small u.length v.length (kindsN (v ++ u)) (hitsN u v) := ⟨hun, hvn, by have := kindsN_le (v ++ u); rw [List.length_append] at this; omega, hitsN_le u v⟩
  have HCO := Aside0.mk (fun W (Au Av : Option Addr) (cu cv : Nat) hr0 hr1 => cost_Of.calls Au cu u Av cv v W hr0 hr1 (by omega) (by omega) hC.wu hC.wv)
  have HCH := Aside0.mk (fun W => cost_Choose.small _ _ _ _ HS W)
  have hch := chooseN_is u.length v.length (hitsN u v) hun hvn
  have HFI := Aside0.mk (fun W => cost_Fits.small (chooseN u.length v.length (hitsN u v)) _ _ _ _ (by omega) (by omega) HS 1099511627776 W)
  have hro := room_small _ _ _ _ _ HS hch
  generalize chooseN u.length v.length (hitsN u v) = eng at HCH HFI hch hro
  simp only [if_neg hro] at HFI
  generalize kindsN (v ++ u) = ks at HCO HCH HFI
  generalize hitsN u v = hs at HCO HCH HFI
  generalize trim_Of.p x y = p at HCU ⊢
  generalize trim_Of.s x y = s at HCU ⊢
  generalize modeOf m = mm at HT0 HT1 HCU ⊢
  have HCN := Aside0.mk hch
  unfold shpV at HCH HFI
  have hws : IntKind.i64.wrap ((la.length : Int) + (lb.length : Int)) = (la.length : Int) + (lb.length : Int) := by rw [IntWalk.i64_in _ (by omega)]
  have d1 : decide ((1000 : Int) < (la.length : Int) + (lb.length : Int)) = false := decide_eq_false (by omega)
  have d2 : decide ((1048576 : Int) < (la.length : Int) + (lb.length : Int)) = false := decide_eq_false (by omega)
  have d3 : decide (1000 < la.length + lb.length) = false := decide_eq_false (by omega)
  have d4 : decide (1048576 < la.length + lb.length) = false := decide_eq_false (by omega)
  clear hC h0 h1 hun hvn HS hch hro hna hnb
  go_enter Tryz.func38, Tryz.ntmps38
  go_upto_region 1 with fail
  obtain ⟨k0, k1⟩ := alloc2 w (Obj.cells #[.int .i64 1000, .int .i64 1099511627776] 40) (Obj.cells #[.slice none 0 0, .slice none 0 0, .slice none 0 0, .slice none 0 0, .int .i64 0, .int .i64 0, .slice none 0 0, .slice none 0 0] 81)
  have HB := Aside0.mk (below_alloc (below_alloc (Below.refl w.heap.size w) (Obj.cells #[.int .i64 1000, .int .i64 1099511627776] 40)) (Obj.cells #[.slice none 0 0, .slice none 0 0, .slice none 0 0, .slice none 0 0, .int .i64 0, .int .i64 0, .slice none 0 0, .slice none 0 0] 81))
  have HL := Aside0.mk (show w.heap.size < w.heap.size + 1 from Nat.lt_succ_self w.heap.size)
  have K9 := Aside0.mk k0
  have K10 := Aside0.mk k1
  clear k0 k1
  generalize (w.alloc (Obj.cells #[.int .i64 1000, .int .i64 1099511627776] 40)).alloc (Obj.cells #[.slice none 0 0, .slice none 0 0, .slice none 0 0, .slice none 0 0, .int .i64 0, .int .i64 0, .slice none 0 0, .slice none 0 0] 81) = w1 at K9 K10 HB ⊢
  generalize w.heap.size + 1 = gt at K10 HL ⊢
  go_upto_region 10 with (first
    | (go_at_call 63; ((with_reducible refine (HT0.out _ HB.out).mono ?_); rintro e w2 ⟨rfl, hbl⟩; have n0_ := Aside0.mk (below_step HB.out hbl); have nK9_ := Aside0.mk (blk_below K9.out hbl); have nK10_ := Aside0.mk (blk_below K10.out hbl); clear HB K9 K10 hbl; have HB := n0_; have K9 := nK9_; have K10 := nK10_; clear n0_ nK9_ nK10_; clear HT0))
    | (go_at_call 63; ((with_reducible refine (HT1.out _ HB.out).mono ?_); rintro e w3 ⟨rfl, hbl⟩; have n0_ := Aside0.mk (below_step HB.out hbl); have nK9_ := Aside0.mk (blk_below K9.out hbl); have nK10_ := Aside0.mk (blk_below K10.out hbl); clear HB K9 K10 hbl; have HB := n0_; have K9 := nK9_; have K10 := nK10_; clear n0_ nK9_ nK10_; clear HT1; have hz0 := (blk_cell K9.out 0).trans (show _ = some (.int .i64 1000) from rfl)))
    | (go_at_call 45; ((with_reducible refine (HCU.out _ HB.out).mono ?_); rintro e w4 ⟨Aa, Ab, Ax, Ay, Au, Av, ca, cb, cx, cy, cu, cv, rfl, ht, hbl⟩; have n0_ := Aside0.mk (below_step HB.out hbl); have nK9_ := Aside0.mk (blk_below K9.out hbl); have nK10_ := Aside0.mk (blk_below K10.out hbl); clear HB K9 K10 hbl; have HB := n0_; have K9 := nK9_; have K10 := nK10_; clear n0_ nK9_ nK10_; clear HCU hz0; have HT := Aside0.mk ht; clear ht)))
  have hbl := below_alloc (Below.refl w4.heap.size w4) (Obj.cells #[.slice Aa la.length ca, .slice Ab lb.length cb, .slice Ax x.length cx, .slice Ay y.length cy, .int .i64 (p : Int), .int .i64 (s : Int), .slice Au u.length cu, .slice Av v.length cv] 81)
  have K17 := Aside0.mk (alloc_at w4 (Obj.cells #[.slice Aa la.length ca, .slice Ab lb.length cb, .slice Ax x.length cx, .slice Ay y.length cy, .int .i64 (p : Int), .int .i64 (s : Int), .slice Au u.length cu, .slice Av v.length cv] 81))
  have nT_ := Aside0.mk (HT.out.below hbl); have n0_ := Aside0.mk (below_step HB.out hbl); have nK9_ := Aside0.mk (blk_below K9.out hbl); have nK10_ := Aside0.mk (blk_below K10.out hbl); clear HB K9 K10 hbl; have HB := n0_; have K9 := nK9_; have K10 := nK10_; clear n0_ nK9_ nK10_; clear HT; have HT := nT_; clear nT_
  have hz6 := (blk_cell K17.out 6).trans (show _ = some (.slice Au u.length cu) from rfl)
  have hz7 := (blk_cell K17.out 7).trans (show _ = some (.slice Av v.length cv) from rfl)
  generalize w4.alloc (Obj.cells #[.slice Aa la.length ca, .slice Ab lb.length cb, .slice Ax x.length cx, .slice Ay y.length cy, .int .i64 (p : Int), .int .i64 (s : Int), .slice Au u.length cu, .slice Av v.length cv] 81) = w5 at K17 K9 K10 HB HT hz6 hz7 ⊢
  generalize w4.heap.size = gk at K17 hz6 hz7 ⊢
  go_upto_region 13 with (go_at_call 64; ((with_reducible refine (HCO.out _ Au Av cu cv HT.out.fu HT.out.fv).mono ?_); rintro e w6 ⟨rfl, hbl⟩; have nT_ := Aside0.mk (HT.out.below hbl); have n0_ := Aside0.mk (below_step HB.out hbl); have nK9_ := Aside0.mk (blk_below K9.out hbl); have nK10_ := Aside0.mk (blk_below K10.out hbl); have nK17_ := Aside0.mk (blk_below K17.out hbl); clear HB K9 K10 K17 hbl; have HB := n0_; have K9 := nK9_; have K10 := nK10_; have K17 := nK17_; clear n0_ nK9_ nK10_ nK17_; clear HT; have HT := nT_; clear nT_; clear HCO hz6 hz7))
  have hbl := below_alloc (Below.refl w6.heap.size w6) (Obj.cells #[.int .i64 (u.length : Int), .int .i64 (v.length : Int), .int .i64 (ks : Int), .int .i64 (hs : Int)] 30)
  have K18 := Aside0.mk (alloc_at w6 (Obj.cells #[.int .i64 (u.length : Int), .int .i64 (v.length : Int), .int .i64 (ks : Int), .int .i64 (hs : Int)] 30))
  have nT_ := Aside0.mk (HT.out.below hbl); have n0_ := Aside0.mk (below_step HB.out hbl); have nK9_ := Aside0.mk (blk_below K9.out hbl); have nK10_ := Aside0.mk (blk_below K10.out hbl); have nK17_ := Aside0.mk (blk_below K17.out hbl); clear HB K9 K10 K17 hbl; have HB := n0_; have K9 := nK9_; have K10 := nK10_; have K17 := nK17_; clear n0_ nK9_ nK10_ nK17_; clear HT; have HT := nT_; clear nT_
  have hs0 := (blk_cell K18.out 0).trans (show _ = some (.int .i64 (u.length : Int)) from rfl)
  have hs1 := (blk_cell K18.out 1).trans (show _ = some (.int .i64 (v.length : Int)) from rfl)
  have hs2 := (blk_cell K18.out 2).trans (show _ = some (.int .i64 (ks : Int)) from rfl)
  have hs3 := (blk_cell K18.out 3).trans (show _ = some (.int .i64 (hs : Int)) from rfl)
  generalize w6.alloc (Obj.cells #[.int .i64 (u.length : Int), .int .i64 (v.length : Int), .int .i64 (ks : Int), .int .i64 (hs : Int)] 30) = w7 at K17 K18 K9 K10 HB HT hs0 hs1 hs2 hs3 ⊢
  generalize w6.heap.size = gs at K18 hs0 hs1 hs2 hs3 ⊢
  go_upto_region 18 with (first
    | (go_at_call 65; ((with_reducible refine (HCH.out _).mono ?_); rintro e w8 ⟨rfl, hbl⟩; have nT_ := Aside0.mk (HT.out.below hbl); have n0_ := Aside0.mk (below_step HB.out hbl); have nK9_ := Aside0.mk (blk_below K9.out hbl); have nK10_ := Aside0.mk (blk_below K10.out hbl); have nK17_ := Aside0.mk (blk_below K17.out hbl); have nK18_ := Aside0.mk (blk_below K18.out hbl); clear HB K9 K10 K17 K18 hbl; have HB := n0_; have K9 := nK9_; have K10 := nK10_; have K17 := nK17_; have K18 := nK18_; clear n0_ nK9_ nK10_ nK17_ nK18_; clear HT; have HT := nT_; clear nT_; clear HCH hs0 hs1 hs2 hs3; have hs0 := (blk_cell K18.out 0).trans (show _ = some (.int .i64 (u.length : Int)) from rfl); have hs1 := (blk_cell K18.out 1).trans (show _ = some (.int .i64 (v.length : Int)) from rfl); have hs2 := (blk_cell K18.out 2).trans (show _ = some (.int .i64 (ks : Int)) from rfl); have hs3 := (blk_cell K18.out 3).trans (show _ = some (.int .i64 (hs : Int)) from rfl); have hz1 := (blk_cell K9.out 1).trans (show _ = some (.int .i64 1099511627776) from rfl)))
    | (go_at_call 66; ((with_reducible refine (HFI.out _).mono ?_); rintro e w9 ⟨rfl, hbl⟩; have nT_ := Aside0.mk (HT.out.below hbl); have n0_ := Aside0.mk (below_step HB.out hbl); have nK9_ := Aside0.mk (blk_below K9.out hbl); have nK10_ := Aside0.mk (blk_below K10.out hbl); have nK17_ := Aside0.mk (blk_below K17.out hbl); have nK18_ := Aside0.mk (blk_below K18.out hbl); clear HB K9 K10 K17 K18 hbl; have HB := n0_; have K9 := nK9_; have K10 := nK10_; have K17 := nK17_; have K18 := nK18_; clear n0_ nK9_ nK10_ nK17_ nK18_; clear HT; have HT := nT_; clear nT_; clear HFI hs0 hs1 hs2 hs3 hz1)))
  have hz0 := (blk_cell K17.out 0).trans (show _ = some (.slice Aa la.length ca) from rfl)
  have hy0 := (blk_cell K10.out 0).trans (show _ = some (.slice none 0 0) from rfl)
  have hg0 := blk_frozen K10.out 0
  have hz1 := (blk_cell K17.out 1).trans (show _ = some (.slice Ab lb.length cb) from rfl)
  have hy1 := (blk_cell K10.out 1).trans (show _ = some (.slice none 0 0) from rfl)
  have hg1 := blk_frozen K10.out 1
  have hz2 := (blk_cell K17.out 2).trans (show _ = some (.slice Ax x.length cx) from rfl)
  have hy2 := (blk_cell K10.out 2).trans (show _ = some (.slice none 0 0) from rfl)
  have hg2 := blk_frozen K10.out 2
  have hz3 := (blk_cell K17.out 3).trans (show _ = some (.slice Ay y.length cy) from rfl)
  have hy3 := (blk_cell K10.out 3).trans (show _ = some (.slice none 0 0) from rfl)
  have hg3 := blk_frozen K10.out 3
  have hz4 := (blk_cell K17.out 4).trans (show _ = some (.int .i64 (p : Int)) from rfl)
  have hy4 := (blk_cell K10.out 4).trans (show _ = some (.int .i64 0) from rfl)
  have hg4 := blk_frozen K10.out 4
  have hz5 := (blk_cell K17.out 5).trans (show _ = some (.int .i64 (s : Int)) from rfl)
  have hy5 := (blk_cell K10.out 5).trans (show _ = some (.int .i64 0) from rfl)
  have hg5 := blk_frozen K10.out 5
  have hz6 := (blk_cell K17.out 6).trans (show _ = some (.slice Au u.length cu) from rfl)
  have hy6 := (blk_cell K10.out 6).trans (show _ = some (.slice none 0 0) from rfl)
  have hg6 := blk_frozen K10.out 6
  have hz7 := (blk_cell K17.out 7).trans (show _ = some (.slice Av v.length cv) from rfl)
  have hy7 := (blk_cell K10.out 7).trans (show _ = some (.slice none 0 0) from rfl)
  have hg7 := blk_frozen K10.out 7
  have HT2 := Aside0.mk (HT.out.puts (by decide) K10.out [(0, .slice Aa la.length ca), (1, .slice Ab lb.length cb), (2, .slice Ax x.length cx), (3, .slice Ay y.length cy), (4, .int .i64 (p : Int)), (5, .int .i64 (s : Int)), (6, .slice Au u.length cu), (7, .slice Av v.length cv)])
  have HB2 := Aside0.mk (below_puts (Nat.le_of_lt HL.out) [(0, .slice Aa la.length ca), (1, .slice Ab lb.length cb), (2, .slice Ax x.length cx), (3, .slice Ay y.length cy), (4, .int .i64 (p : Int)), (5, .int .i64 (s : Int)), (6, .slice Au u.length cu), (7, .slice Av v.length cv)] HB.out)
  go_wp2_with fail
  refine bodyPost_ret (v := .tuple #[.agg #[.slice Aa la.length ca, .slice Ab lb.length cb, .slice Ax x.length cx, .slice Ay y.length cy, .int .i64 (p : Int), .int .i64 (s : Int), .slice Au u.length cu, .slice Av v.length cv], .int .i64 (eng : Int), .int .i64 0]) (by simp [results, Tryz.results38, go_sem, hy0, hg0, hy1, hg1, hy2, hg2, hy3, hg3, hy4, hg4, hy5, hg5, hy6, hg6, hy7, hg7]) rfl ⟨Aa, Ab, Ax, Ay, Au, Av, ca, cb, cx, cy, cu, cv, eng, rfl, HCN.out, HT2.out, HB2.out⟩
end Go.Proofs.YtdiojfaenfggkaaGreat.PTopNear
namespace Go.Proofs.YtdiojfaenfggkaaGreat.PTopNear
open Go.RowKit Go.Proofs.YtdiojfaenfggkaaGreatW.PrintWords Go.Proofs.YtdiojfaenfggkaaGreatW.PrintLast Go.Proofs.YtdiojfaenfggkaaGreatW.PrintMore
attribute [local go_sem] max2_int min2_int max_two min_two max_three min_three max_four min_four
set_option linter.unusedVariables false
set_option linter.unusedSimpArgs false
def sumN : Nat → (Nat → Nat) → Nat
  | 0, _ => 0
  | n + 1, f => sumN n f + f n
theorem sumN_congr {n : Nat} {f g : Nat → Nat} (h : ∀ i, i < n → f i = g i) : sumN n f = sumN n g := by
  induction n with
  | zero => rfl
  | succ n ih => simp only [sumN]; rw [ih (fun i hi => h i (by omega)), h n (by omega)]
theorem sumN_add (n : Nat) (f g : Nat → Nat) : sumN n (fun i => f i + g i) = sumN n f + sumN n g := by
  induction n with
  | zero => rfl
  | succ n ih => simp only [sumN]; omega
theorem sumN_zero (n : Nat) : sumN n (fun _ => 0) = 0 := by
  induction n with
  | zero => rfl
  | succ n ih => simp only [sumN]; omega
theorem sumN_le {n : Nat} {f g : Nat → Nat} (h : ∀ i, i < n → f i ≤ g i) : sumN n f ≤ sumN n g := by
  induction n with
  | zero => exact Nat.le_refl _
  | succ n ih => simp only [sumN]; have := ih (fun i hi => h i (by omega)); have := h n (by omega); omega
theorem sumN_const (n c : Nat) : sumN n (fun _ => c) = n * c := by
  induction n with
  | zero => simp [sumN]
  | succ n ih => simp only [sumN]; rw [ih, Nat.succ_mul]
theorem sumN_interval (n : Nat) (a b : Int) : ((sumN n (fun i => if a ≤ (i : Int) ∧ (i : Int) ≤ b then 1 else 0) : Nat) : Int) = max 0 (min ((n : Int) - 1) b - max 0 a + 1) := by
  induction n with
  | zero => simp only [sumN]; omega
  | succ n ih =>
    simp only [sumN]
    by_cases h : a ≤ (n : Int) ∧ (n : Int) ≤ b
    · rw [if_pos h]; omega
    · rw [if_neg h]; omega
def onDiag (n m : Nat) (d : Int) : Nat := sumN (n + 1) fun i => sumN (m + 1) fun j => if (i : Int) - (j : Int) = d then 1 else 0
theorem onDiag_eq (n m : Nat) (d : Int) (h1 : -(m : Int) ≤ d) (h2 : d ≤ n) : ((onDiag n m d : Nat) : Int) = min (m : Int) (n - d) - max 0 (-d) + 1 := by
  unfold onDiag
  have e : (sumN (n + 1) fun i => sumN (m + 1) fun j => if (i : Int) - (j : Int) = d then 1 else 0) = sumN (n + 1) fun i => if d ≤ (i : Int) ∧ (i : Int) ≤ m + d then 1 else 0 := by
    refine sumN_congr fun i hi => ?_
    have h3 := sumN_interval (m + 1) ((i : Int) - d) ((i : Int) - d)
    have h4 : (sumN (m + 1) fun j => if (i : Int) - (j : Int) = d then 1 else 0) = sumN (m + 1) (fun j => if (i : Int) - d ≤ (j : Int) ∧ (j : Int) ≤ (i : Int) - d then 1 else 0) := by
      refine sumN_congr fun j hj => ?_
      by_cases h : (i : Int) - (j : Int) = d
      · rw [if_pos h, if_pos (by omega)]
      · rw [if_neg h, if_neg (by omega)]
    rw [h4]
    split <;> omega
  rw [e]
  have := sumN_interval (n + 1) d (m + d)
  omega
def band (n m : Nat) (lo hi : Int) : Nat := sumN (n + 1) fun i => sumN (m + 1) fun j => if lo ≤ (i : Int) - (j : Int) ∧ (i : Int) - (j : Int) ≤ hi then 1 else 0
theorem band_empty (n m : Nat) (lo hi : Int) (h : hi < lo) : band n m lo hi = 0 := by
  unfold band
  rw [sumN_congr (g := fun _ => 0) (fun i _ => ?_), sumN_zero]
  rw [sumN_congr (g := fun _ => 0) (fun j _ => ?_), sumN_zero]
  rw [if_neg (by omega)]
theorem band_step (n m : Nat) (lo hi : Int) (h : lo ≤ hi + 1) : band n m lo (hi + 1) = band n m lo hi + onDiag n m (hi + 1) := by
  unfold band onDiag
  rw [← sumN_add]
  refine sumN_congr fun i _ => ?_
  rw [← sumN_add]
  refine sumN_congr fun j _ => ?_
  by_cases h1 : lo ≤ (i : Int) - (j : Int) ∧ (i : Int) - (j : Int) ≤ hi
  · rw [if_pos h1, if_pos (by omega), if_neg (by omega)]
  · rw [if_neg h1]
    by_cases h2 : (i : Int) - (j : Int) = hi + 1
    · rw [if_pos (by omega), if_pos h2]
    · rw [if_neg (by omega), if_neg h2]
theorem band_le (n m : Nat) (lo hi : Int) : band n m lo hi ≤ (n + 1) * (m + 1) := by
  have : band n m lo hi ≤ sumN (n + 1) fun _ => sumN (m + 1) fun _ => 1 := by
    unfold band
    refine sumN_le fun i _ => sumN_le fun j _ => ?_
    split <;> omega
  rw [sumN_const, sumN_const] at this
  simpa using this
def apart (x y : Int) : Int := if x > y then x - y else y - x
def cells (n m : Nat) (k : Int) : Nat := sumN (n + 1) fun i => sumN (m + 1) fun j => if apart i j + apart ((n : Int) - i) ((m : Int) - j) ≤ k then 1 else 0
def bandLo (n m : Nat) (k : Int) : Int := max (-(m : Int)) (min 0 ((n : Int) - m) - min ((k - max ((n : Int) - m) ((m : Int) - n)) / 2) m)
def bandHi (n m : Nat) (k : Int) : Int := min (n : Int) (max 0 ((n : Int) - m) + min ((k - max ((n : Int) - m) ((m : Int) - n)) / 2) n)
theorem cells_none (n m : Nat) (k : Int) (h : k < max ((n : Int) - m) ((m : Int) - n)) : cells n m k = 0 := by
  unfold cells
  rw [sumN_congr (g := fun _ => 0) (fun i _ => ?_), sumN_zero]
  rw [sumN_congr (g := fun _ => 0) (fun j _ => ?_), sumN_zero]
  rw [if_neg]
  unfold apart
  split <;> split <;> omega
theorem cells_band (n m : Nat) (k : Int) (h : max ((n : Int) - m) ((m : Int) - n) ≤ k) : cells n m k = band n m (bandLo n m k) (bandHi n m k) := by
  unfold cells band bandLo bandHi
  refine sumN_congr fun i hi => sumN_congr fun j hj => ?_
  have e : (apart i j + apart ((n : Int) - i) ((m : Int) - j) ≤ k) ↔ (max (-(m : Int)) (min 0 ((n : Int) - m) - min ((k - max ((n : Int) - m) ((m : Int) - n)) / 2) m) ≤ (i : Int) - j ∧ (i : Int) - j ≤ min (n : Int) (max 0 ((n : Int) - m) + min ((k - max ((n : Int) - m) ((m : Int) - n)) / 2) n)) := by
    unfold apart
    split <;> split <;> omega
  by_cases c : apart i j + apart ((n : Int) - i) ((m : Int) - j) ≤ k
  · rw [if_pos c, if_pos (e.1 c)]
  · rw [if_neg c, if_neg (fun h => c (e.2 h))]
theorem mx_max (a b : Int) : mx a b = max a b := by unfold mx; omega
theorem mn_min (a b : Int) : mn a b = min a b := by unfold mn; omega
theorem band_is_eq (a : Int) : band_is.f a = some (decide (0 ≤ a ∧ a ≤ 1048576)) := by
  unfold band_is.f
  by_cases h1 : 0 ≤ a <;> by_cases h2 : a ≤ 1048576 <;> simp [h1, h2]
theorem band_edges_none (n m : Nat) (k : Int) (hn : n ≤ 1048576) (hm : m ≤ 1048576) (h : k < max ((n : Int) - m) ((m : Int) - n)) : band_edges.f n m k = some (0, 0, false) := by
  unfold band_edges.f
  simp (disch := omega) only [wr, mx_max]
  rw [if_pos (by omega)]
theorem band_edges_some (n m : Nat) (k : Int) (hn : n ≤ 1048576) (hm : m ≤ 1048576) (hk : k < 9223372036854775808) (h : max ((n : Int) - m) ((m : Int) - n) ≤ k) : band_edges.f n m k = some (bandLo n m k, bandHi n m k, true) := by
  unfold band_edges.f bandLo bandHi
  have e1 : -((n : Int) - m) = (m : Int) - n := by omega
  have e2 : ∀ x : Int, 0 ≤ x → Int.tdiv x 2 = x / 2 := fun x hx => Int.tdiv_eq_ediv_of_nonneg hx
  rw [wr (x := (n : Int) - m) (by omega) (by omega), wr (x := -((n : Int) - m)) (by omega) (by omega), e1]
  simp only [mx_max, mn_min]
  rw [if_neg (by omega), wr (x := k - max ((n : Int) - m) ((m : Int) - n)) (by omega) (by omega), e2 _ (by omega), wr (x := (k - max ((n : Int) - m) ((m : Int) - n)) / 2) (by omega) (by omega)]
  rw [wr (x := -(m : Int)) (by omega) (by omega), wr (by omega) (by omega), wr (by omega) (by omega)]
theorem band_Cells_l0 (n m : Nat) (hn : n ≤ 100000) (hm : m ≤ 100000) (lo hi : Int) (h1 : -(m : Int) ≤ lo) (h2 : hi ≤ n) : ∀ (e : Nat) (d : Int), lo ≤ d → d + e = max (hi + 1) lo → ∀ k, e < k →
    band_Cells.l0 k n m hi (band n m lo (d - 1)) d = some ((band n m lo hi : Nat) : Int) := by
  have hb : ∀ x, ((band n m lo x : Nat) : Int) ≤ 100001 * 100001 := fun x => by
    have h := band_le n m lo x
    have h' : (n + 1) * (m + 1) ≤ 100001 * 100001 := Nat.mul_le_mul (by omega) (by omega)
    omega
  intro e
  induction e with
  | zero =>
    intro d hd he k hk
    obtain ⟨k, rfl⟩ : ∃ q, k = q + 1 := ⟨k - 1, by omega⟩
    rw [band_Cells.l0, if_neg (by omega)]
    by_cases c : hi + 1 ≤ lo
    · rw [band_empty n m lo (d - 1) (by omega), band_empty n m lo hi (by omega)]
    · rw [show d - 1 = hi by omega]
  | succ e ih =>
    intro d hd he k hk
    obtain ⟨k, rfl⟩ : ∃ q, k = q + 1 := ⟨k - 1, by omega⟩
    rw [band_Cells.l0, if_pos (by omega)]
    have hs := band_step n m lo (d - 1) (by omega)
    rw [show d - 1 + 1 = d by omega] at hs
    have ho := onDiag_eq n m d (by omega) (by omega)
    have hbd := hb (d - 1)
    have h4 := ih (d + 1) (by omega) (by omega) k (by omega)
    rw [show d + 1 - 1 = d by omega, hs] at h4
    simp only [mx_max, mn_min]
    rw [wr (x := (n : Int) - d) (by omega) (by omega), wr (x := -d) (by omega) (by omega), wr (x := min (m : Int) ((n : Int) - d) - max 0 (-d)) (by omega) (by omega), wr (x := min (m : Int) ((n : Int) - d) - max 0 (-d) + 1) (by omega) (by omega), wr (x := d + 1) (by omega) (by omega), wr (by omega) (by omega), ← ho]
    exact_mod_cast h4
theorem band_edges_in (n m : Nat) (k : Int) (h : max ((n : Int) - m) ((m : Int) - n) ≤ k) : -(m : Int) ≤ bandLo n m k ∧ bandHi n m k ≤ n ∧ bandLo n m k ≤ bandHi n m k ∧ bandHi n m k - bandLo n m k ≤ k := by
  unfold bandLo bandHi; omega
theorem band_Cells_eq (n m : Nat) (k : Int) (hn : n ≤ 100000) (hm : m ≤ 100000) (h0 : 0 ≤ k) (hk : k < 9223372036854775808) (K : Nat) (hK : n + m + 3 < K) : band_Cells.f K n m k = some ((cells n m k : Nat) : Int) := by
  obtain ⟨K, rfl⟩ : ∃ q, K = q + 1 := ⟨K - 1, by omega⟩
  unfold band_Cells.f
  rw [band_is_eq, bs, decide_eq_true (by omega), itt, band_is_eq, bs, decide_eq_true (by omega), itt, decide_eq_false (by omega), band_Cells.j0, ift]
  by_cases h : max ((n : Int) - m) ((m : Int) - n) ≤ k
  · obtain ⟨e1, e2, e3, e4⟩ := band_edges_in n m k h
    rw [band_edges_some n m k (by omega) (by omega) hk h, bs, itt, cells_band n m k h]
    have := band_Cells_l0 n m hn hm (bandLo n m k) (bandHi n m k) e1 e2 (bandHi n m k + 1 - bandLo n m k).toNat (bandLo n m k) (by omega) (by omega) K (by omega)
    rw [band_empty n m _ (bandLo n m k - 1) (by omega)] at this
    exact this
  · rw [band_edges_none n m k (by omega) (by omega) (by omega), bs, ift, cells_none n m k (by omega)]; rfl
def D (a b : List Int) (i j : Nat) : Int := (i : Int) + j - 2 * H a b i j
theorem D_ge (a b : List Int) (i j : Nat) : (i : Int) - j ≤ D a b i j ∧ (j : Int) - i ≤ D a b i j ∧ 0 ≤ D a b i j ∧ D a b i j ≤ (i : Int) + j := by
  have := H_le_i a b i j
  have := H_le_j a b i j
  unfold D; omega
theorem D_zero_left (a b : List Int) (j : Nat) : D a b 0 j = j := by unfold D; rw [H_zero_left]; omega
theorem D_zero_right (a b : List Int) (i : Nat) : D a b i 0 = i := by unfold D; rw [H_zero_right]; omega
theorem D_down (a b : List Int) (i j : Nat) : D a b (i + 1) j ≤ D a b i j + 1 := by have := H_down a b i j; unfold D; omega
theorem D_same {a b : List Int} {i j : Nat} (h : i < a.length) (h' : j < b.length) (e : a.getD i 0 = b.getD j 0) : D a b (i + 1) (j + 1) = D a b i j := by
  have := H_step h h'; rw [if_pos e] at this; unfold D; omega
theorem D_other {a b : List Int} {i j : Nat} (h : i < a.length) (h' : j < b.length) (e : ¬ a.getD i 0 = b.getD j 0) : D a b (i + 1) (j + 1) = min (D a b i (j + 1)) (D a b (i + 1) j) + 1 := by
  have := H_step h h'; rw [if_neg e] at this; unfold D; omega
theorem D_all (a b : List Int) : D a b a.length b.length = dist a b := by
  have := dist_add a b; have := H_all a b; unfold D; omega
def far : Int := 1152921504606846976
def rowAt (f : Int) (l : List Int) (j : Int) : Int := if f ≤ j ∧ j < f + l.length then rd l (j - f) else far
theorem band_line_at_eq (f : Int) (l : List Int) (j : Int) (hf : 0 ≤ f ∧ f ≤ 1000000) (hl : l.length ≤ 1000000) (hj : -1 ≤ j ∧ j ≤ 1000000) : band_line_at.f f l j = some (rowAt f l j) := by
  unfold band_line_at.f rowAt
  rw [wr (x := f + (l.length : Int)) (by omega) (by omega), wr (x := j - f) (by omega) (by omega)]
  by_cases h1 : j < f
  · rw [if_pos h1, if_neg (by omega)]; rfl
  · rw [if_neg h1]
    by_cases h2 : j ≥ f + l.length
    · rw [if_pos h2, if_neg (by omega)]; rfl
    · rw [if_neg h2, if_pos (by omega), if_pos (by omega), if_pos (by omega)]
theorem rowAt_out (f : Int) (l : List Int) (j : Int) (h : ¬ (f ≤ j ∧ j < f + l.length)) : rowAt f l j = far := by unfold rowAt; rw [if_neg h]
theorem rowAt_snoc_old (f : Int) (l : List Int) (v j : Int) (h : j < f + l.length) : rowAt f (l ++ [v]) j = rowAt f l j := by
  unfold rowAt
  simp only [List.length_append, List.length_cons, List.length_nil]
  by_cases h1 : f ≤ j
  · rw [if_pos (by omega), if_pos (by omega)]
    unfold rd
    rw [List.getD_eq_getElem?_getD, List.getD_eq_getElem?_getD, List.getElem?_append_left (by omega)]
  · rw [if_neg (by omega), if_neg (by omega)]
theorem rowAt_snoc_new (f : Int) (l : List Int) (v : Int) : rowAt f (l ++ [v]) (f + l.length) = v := by
  unfold rowAt
  simp only [List.length_append, List.length_cons, List.length_nil]
  rw [if_pos (by omega), show f + (l.length : Int) - f = (l.length : Int) by omega, rd_nat]
  simp [List.getD_eq_getElem?_getD]
def rel (a b : List Int) (k : Int) (i j : Nat) : Prop := D a b i j + ((a.length : Int) - b.length - ((i : Int) - j)) ≤ k ∧ D a b i j - ((a.length : Int) - b.length - ((i : Int) - j)) ≤ k
structure Row (a b : List Int) (k : Int) (i c : Nat) (f : Int) (l : List Int) : Prop where
  first : f = max 0 ((i : Int) - bandHi a.length b.length k)
  len : f + l.length = c
  low : ∀ j : Nat, j ≤ b.length → D a b i j ≤ rowAt f l j
  high : ∀ j : Int, rowAt f l j ≤ far
  eq : ∀ j : Nat, j < c → j ≤ b.length → rel a b k i j → rowAt f l j = D a b i j
theorem rel_in {a b : List Int} {k : Int} {i j : Nat} (hk : max ((a.length : Int) - b.length) ((b.length : Int) - a.length) ≤ k) (hi : i ≤ a.length) (hj : j ≤ b.length) (h : rel a b k i j) :
    bandLo a.length b.length k ≤ (i : Int) - j ∧ (i : Int) - j ≤ bandHi a.length b.length k := by
  have hd := D_ge a b i j
  unfold rel at h
  unfold bandLo bandHi
  omega
theorem row_next {a b : List Int} (ha : a.length ≤ 100000) (hb : b.length ≤ 100000) {k : Int} (hk : max ((a.length : Int) - b.length) ((b.length : Int) - a.length) ≤ k) {i c : Nat} {f : Int} {l : List Int} (hi : i ≤ a.length) (hc : c ≤ b.length)
    (hr : Row a b k i c f l) (v : Int) (h1 : D a b i c ≤ v) (h2 : v ≤ far) (h3 : rel a b k i c → v = D a b i c) : Row a b k i (c + 1) f (l ++ [v]) := by
  have hlen := hr.len
  refine ⟨hr.first, by simp; omega, fun j hj => ?_, fun j => ?_, fun j hj hj' hrel => ?_⟩
  · by_cases h : (j : Int) < c
    · rw [rowAt_snoc_old _ _ _ _ (by omega)]; exact hr.low j hj
    · by_cases e : j = c
      · subst e; rw [← hlen, rowAt_snoc_new]; exact h1
      · rw [rowAt_out _ _ _ (by simp; omega)]
        have := D_ge a b i j
        unfold far; omega
  · by_cases h : j < c
    · rw [rowAt_snoc_old _ _ _ _ (by omega)]; exact hr.high j
    · by_cases e : j = c
      · subst e; rw [← hlen, rowAt_snoc_new]; exact h2
      · rw [rowAt_out _ _ _ (by simp; omega)]; exact Int.le_refl _
  · by_cases h : j < c
    · rw [rowAt_snoc_old _ _ _ _ (by omega)]; exact hr.eq j h hj' hrel
    · obtain rfl : j = c := by omega
      rw [← hlen, rowAt_snoc_new]; exact h3 hrel
def Above (a b : List Int) (k : Int) (i : Nat) (f : Int) (l : List Int) : Prop :=
  (i = 0 ∧ f = 0 ∧ l = []) ∨ ∃ p, i = p + 1 ∧ ∃ c : Nat, (c : Int) = min (b.length : Int) ((p : Int) - bandLo a.length b.length k) + 1 ∧ Row a b k p c f l
theorem above_facts {a b : List Int} (ha : a.length ≤ 100000) (hb : b.length ≤ 100000) {k : Int} (hk : max ((a.length : Int) - b.length) ((b.length : Int) - a.length) ≤ k) {p : Nat} (hp : p < a.length) {f : Int} {l : List Int} (h : Above a b k (p + 1) f l) :
    (∀ j : Nat, j ≤ b.length → D a b p j ≤ rowAt f l j) ∧ (∀ j : Int, rowAt f l j ≤ far) ∧ (∀ j : Nat, j ≤ b.length → rel a b k p j → rowAt f l j = D a b p j) := by
  rcases h with ⟨h, _⟩ | ⟨q, hq, c, hc, hr⟩
  · omega
  · obtain rfl : q = p := by omega
    refine ⟨hr.low, hr.high, fun j hj hrel => hr.eq j ?_ hj hrel⟩
    have := rel_in hk (by omega) hj hrel
    omega
theorem above_bounds {a b : List Int} (ha : a.length ≤ 100000) (hb : b.length ≤ 100000) {k : Int} {i : Nat} (hi : i ≤ a.length) {f : Int} {l : List Int} (h : Above a b k i f l) : 0 ≤ f ∧ f ≤ 200000 ∧ l.length ≤ 200000 := by
  rcases h with ⟨_, rfl, rfl⟩ | ⟨q, hq, c, hc, hr⟩
  · simp
  · have := hr.first
    have := hr.len
    have : -(b.length : Int) ≤ bandLo a.length b.length k := by unfold bandLo; omega
    have : -(b.length : Int) ≤ bandHi a.length b.length k ∨ bandHi a.length b.length k < -(b.length : Int) := by omega
    omega
theorem band_next_l0 (a b : List Int) (ha : a.length ≤ 100000) (hb : b.length ≤ 100000) (k : Int) (hk : max ((a.length : Int) - b.length) ((b.length : Int) - a.length) ≤ k) (i : Nat) (hi : i ≤ a.length) (af : Int) (al : List Int) (hA : Above a b k i af al) :
    ∀ (d c : Nat) (f : Int) (l : List Int), (c : Int) + d = min (b.length : Int) ((i : Int) - bandLo a.length b.length k) + 1 → Row a b k i c f l →
    ∃ (l' : List Int) (c' : Nat), (c' : Int) = min (b.length : Int) ((i : Int) - bandLo a.length b.length k) + 1 ∧ Row a b k i c' f l' ∧
      Ev (fun K => band_next.l0 K a b i (min (b.length : Int) ((i : Int) - bandLo a.length b.length k)) c af al f l) (f, l') := by
  intro d
  induction d with
  | zero =>
    intro c f l hc hr
    refine ⟨l, c, by omega, hr, Ev.step (f := fun _ => some _) (fun K => ?_) (Ev.now _)⟩
    rw [band_next.l0, if_neg (by omega)]
  | succ d ih =>
    intro c f l hc hr
    have hlo : -(b.length : Int) ≤ bandLo a.length b.length k := by unfold bandLo; omega
    have hcb : c ≤ b.length := by omega
    have hlen := hr.len
    have hf := hr.first
    obtain ⟨hb1, hb2, hb3⟩ := above_bounds ha hb hi hA
    have hD := D_ge a b i c
    have go : ∀ v : Int, D a b i c ≤ v → v ≤ far → (rel a b k i c → v = D a b i c) →
        (Ev (fun K => band_next.l0 K a b i (min (b.length : Int) ((i : Int) - bandLo a.length b.length k)) ((c : Int) + 1) af al f (l ++ [v])) = Ev (fun K => band_next.l0 K a b i (min (b.length : Int) ((i : Int) - bandLo a.length b.length k)) (((c + 1 : Nat)) : Int) af al f (l ++ [v]))) ∧
        ∃ (l' : List Int) (c' : Nat), (c' : Int) = min (b.length : Int) ((i : Int) - bandLo a.length b.length k) + 1 ∧ Row a b k i c' f l' ∧
          Ev (fun K => band_next.l0 K a b i (min (b.length : Int) ((i : Int) - bandLo a.length b.length k)) (((c + 1 : Nat)) : Int) af al f (l ++ [v])) (f, l') := fun v h1 h2 h3 =>
      ⟨by simp, ih (c + 1) f (l ++ [v]) (by omega) (row_next ha hb hk hi hcb hr v h1 h2 h3)⟩
    have hl : l.length < 17592186044416 := by omega
    have fin : ∀ (v : Int) (step : Nat → Option (Int × List Int)), D a b i c ≤ v → v ≤ far → (rel a b k i c → v = D a b i c) →
        (∀ r, Ev (fun K => band_next.l0 K a b i (min (b.length : Int) ((i : Int) - bandLo a.length b.length k)) ((c : Int) + 1) af al f (l ++ [v])) r → Ev (fun K => band_next.l0 K a b i (min (b.length : Int) ((i : Int) - bandLo a.length b.length k)) c af al f l) r) →
        ∃ (l' : List Int) (c' : Nat), (c' : Int) = min (b.length : Int) ((i : Int) - bandLo a.length b.length k) + 1 ∧ Row a b k i c' f l' ∧
          Ev (fun K => band_next.l0 K a b i (min (b.length : Int) ((i : Int) - bandLo a.length b.length k)) c af al f l) (f, l') := by
      intro v _ h1 h2 h3 hs
      obtain ⟨e, l', c', h4, h5, h6⟩ := go v h1 h2 h3
      exact ⟨l', c', h4, h5, hs _ (by rw [show ((c : Int) + 1) = (((c + 1 : Nat)) : Int) by omega]; exact h6)⟩
    by_cases h00 : i = 0 ∧ c = 0
    · obtain ⟨rfl, rfl⟩ := h00
      refine fin 0 (fun _ => none) (by rw [D_zero_left]; simp) (by unfold far; omega) (fun _ => by rw [D_zero_left]; rfl) (fun r hr' => ?_)
      refine Ev.step (f := fun K => band_next.j1 K a b ((0 : Nat) : Int) (min (b.length : Int) (((0 : Nat) : Int) - bandLo a.length b.length k)) ((0 : Nat) : Int) true af al f l) (fun K => ?_) (Ev.step (fun K => ?_) hr')
      · rw [band_next.l0, if_pos (by omega), if_pos (by omega)]; rfl
      · rw [band_next.j1, itt, if_pos hl, wr (by omega) (by omega)]
    ·
      have s1 : ∀ r, Ev (fun K => band_next.j1 K a b i (min (b.length : Int) ((i : Int) - bandLo a.length b.length k)) c false af al f l) r → Ev (fun K => band_next.l0 K a b i (min (b.length : Int) ((i : Int) - bandLo a.length b.length k)) c af al f l) r := by
        intro r h
        refine Ev.step (fun K => ?_) h
        rw [band_next.l0, if_pos (by omega)]
        by_cases h0 : i = 0
        · rw [if_pos (by omega), show ((c : Int) == 0) = false by rw [beq_eq_false_iff_ne]; omega]
        · rw [if_neg (by omega)]
      have other : ∀ (hs : ∀ r, Ev (fun K => band_next.j2 K a b i (min (b.length : Int) ((i : Int) - bandLo a.length b.length k)) c false af al f l) r → Ev (fun K => band_next.j1 K a b i (min (b.length : Int) ((i : Int) - bandLo a.length b.length k)) c false af al f l) r)
          (h1 : D a b i c ≤ min (min far (rowAt af al c + 1)) (rowAt f l ((c : Int) - 1) + 1)) (h3 : rel a b k i c → min (min far (rowAt af al c + 1)) (rowAt f l ((c : Int) - 1) + 1) = D a b i c)
          (hx : -1 ≤ rowAt af al c ∧ rowAt af al c ≤ far) (hy : -1 ≤ rowAt f l ((c : Int) - 1) ∧ rowAt f l ((c : Int) - 1) ≤ far),
          ∃ (l' : List Int) (c' : Nat), (c' : Int) = min (b.length : Int) ((i : Int) - bandLo a.length b.length k) + 1 ∧ Row a b k i c' f l' ∧
          Ev (fun K => band_next.l0 K a b i (min (b.length : Int) ((i : Int) - bandLo a.length b.length k)) c af al f l) (f, l') := by
        intro hs h1 h3 hx hy
        refine fin _ (fun _ => none) h1 (by unfold far at *; omega) h3 (fun r hr' => s1 r (hs r (Ev.step (fun K => ?_) hr')))
        rw [band_next.j2, ift, band_line_at_eq af al c (by omega) (by omega) (by omega), bs, wr (x := (c : Int) - 1) (by omega) (by omega), band_line_at_eq f l _ (by omega) (by omega) (by omega), bs, if_pos hl, wr (x := (c : Int) + 1) (by omega) (by omega)]
        have e : mn (mn 1152921504606846976 (wrap64 (rowAt af al c + 1))) (wrap64 (rowAt f l ((c : Int) - 1) + 1)) = min (min far (rowAt af al c + 1)) (rowAt f l ((c : Int) - 1) + 1) := by
          unfold far at *
          rw [wr (by omega) (by omega), wr (by omega) (by omega)]
          unfold mn; omega
        rw [e]
      cases i with
      | zero =>
        obtain ⟨c, rfl⟩ : ∃ q, c = q + 1 := ⟨c - 1, by omega⟩
        have hx : rowAt af al ((c + 1 : Nat) : Int) = far := by
          rcases hA with ⟨_, rfl, rfl⟩ | ⟨q, hq, _⟩
          · exact rowAt_out _ _ _ (by simp only [List.length_nil]; omega)
          · omega
        have hy := hr.low c (by omega)
        have hy' := hr.high (c : Int)
        have hy'' := hr.eq c (by omega) (by omega)
        rw [D_zero_left] at hy hy''
        refine other (fun r h => Ev.step (fun K => ?_) h) ?_ ?_ ?_ ?_
        · rw [band_next.j1, ift, if_neg (by omega)]
        · rw [hx, D_zero_left, show (((c + 1 : Nat) : Int) - 1) = (c : Int) by omega]; unfold far at *; omega
        · intro hrel
          have h5 : rel a b k 0 c := by
            unfold rel at *; rw [D_zero_left] at *; omega
          rw [hx, D_zero_left, show (((c + 1 : Nat) : Int) - 1) = (c : Int) by omega, hy'' h5]; unfold far; omega
        · rw [hx]; unfold far; omega
        · rw [show (((c + 1 : Nat) : Int) - 1) = (c : Int) by omega]; omega
      | succ p =>
        obtain ⟨A1, A2, A3⟩ := above_facts ha hb hk (show p < a.length by omega) hA
        have Dp := D_ge a b p c
        have dd := D_down a b p c
        cases c with
        | zero =>
          have hy : rowAt f l (((0 : Nat) : Int) - 1) = far := rowAt_out _ _ _ (by omega)
          refine other (fun r h => Ev.step (fun K => ?_) h) ?_ ?_ ?_ ?_
          · rw [band_next.j1, ift, if_pos (by omega), if_neg (by omega)]
          · rw [hy]
            have := A1 0 (by omega)
            unfold far at *; omega
          · intro hrel
            have h5 : rel a b k p 0 := by
              unfold rel at *; rw [D_zero_right] at *; omega
            rw [hy, A3 0 (by omega) h5, D_zero_right, D_zero_right]; unfold far; omega
          · have := A1 0 (by omega)
            have := A2 ((0 : Nat) : Int)
            omega
          · rw [hy]; unfold far; omega
        | succ c =>
          have e1 : rd a ((((p + 1 : Nat) : Int)) - 1) = a.getD p 0 := rd_at (by omega)
          have e2 : rd b ((((c + 1 : Nat) : Int)) - 1) = b.getD c 0 := rd_at (by omega)
          have s2 : ∀ flag : Bool, ((a.getD p 0) == (b.getD c 0)) = flag → ∀ r, Ev (fun K => band_next.j2 K a b ((p + 1 : Nat) : Int) (min (b.length : Int) (((p + 1 : Nat) : Int) - bandLo a.length b.length k)) ((c + 1 : Nat) : Int) flag af al f l) r → Ev (fun K => band_next.j1 K a b ((p + 1 : Nat) : Int) (min (b.length : Int) (((p + 1 : Nat) : Int) - bandLo a.length b.length k)) ((c + 1 : Nat) : Int) false af al f l) r := by
            intro flag hflag r h
            refine Ev.step (fun K => ?_) h
            rw [band_next.j1, ift, if_pos (by omega), if_pos (by omega), wr (x := (((p + 1 : Nat) : Int)) - 1) (by omega) (by omega), wr (x := (((c + 1 : Nat) : Int)) - 1) (by omega) (by omega), if_pos (by omega), if_pos (by omega), if_pos (by omega), if_pos (by omega), e1, e2, hflag]
          have B1 := A1 c (by omega)
          have B2 := A2 (c : Int)
          by_cases hab : a.getD p 0 = b.getD c 0
          · have hs := D_same (a := a) (b := b) (i := p) (j := c) (by omega) (by omega) hab
            refine fin (rowAt af al c) (fun _ => none) (by omega) B2 (fun hrel => ?_) (fun r hr' => s1 r (s2 true (beq_iff_eq.2 hab) r (Ev.step (fun K => ?_) hr')))
            · rw [hs]
              refine A3 c (by omega) ?_
              unfold rel at *; rw [hs] at hrel; omega
            · rw [band_next.j2, itt, wr (x := (((c + 1 : Nat) : Int)) - 1) (by omega) (by omega), show (((c + 1 : Nat) : Int)) - 1 = (c : Int) by omega, band_line_at_eq af al c (by omega) (by omega) (by omega), bs, if_pos hl, wr (by omega) (by omega)]
          · have hs := D_other (a := a) (b := b) (i := p) (j := c) (by omega) (by omega) hab
            have hy := hr.low c (by omega)
            have hy' := hr.high (c : Int)
            have hy'' := hr.eq c (by omega) (by omega)
            have hx := A1 (c + 1) (by omega)
            have hx' := A2 ((c + 1 : Nat) : Int)
            have hx'' := A3 (c + 1) (by omega)
            have d1 := D_ge a b p (c + 1)
            have d2 := D_ge a b (p + 1) c
            refine other (s2 false (beq_eq_false_iff_ne.2 hab)) ?_ ?_ ?_ ?_
            · rw [show (((c + 1 : Nat) : Int) - 1) = (c : Int) by omega]; unfold far at *; omega
            · intro hrel
              rw [show (((c + 1 : Nat) : Int) - 1) = (c : Int) by omega]
              by_cases hle : D a b p (c + 1) ≤ D a b (p + 1) c
              · have h5 : rel a b k p (c + 1) := by unfold rel at *; omega
                have := hx'' h5
                unfold far at *; omega
              · have h5 : rel a b k (p + 1) c := by unfold rel at *; omega
                have := hy'' h5
                unfold far at *; omega
            · omega
            · rw [show (((c + 1 : Nat) : Int) - 1) = (c : Int) by omega]; omega
theorem band_next_eq (a b : List Int) (ha : a.length ≤ 100000) (hb : b.length ≤ 100000) (k : Int) (hk : max ((a.length : Int) - b.length) ((b.length : Int) - a.length) ≤ k) (i : Nat) (hi : i ≤ a.length) (af : Int) (al : List Int) (hA : Above a b k i af al) :
    ∃ (f' : Int) (l' : List Int), Above a b k (i + 1) f' l' ∧ Ev (fun K => band_next.f K a b i (bandLo a.length b.length k) (bandHi a.length b.length k) af al) (f', l') := by
  have h1 : -(b.length : Int) ≤ bandLo a.length b.length k ∧ bandLo a.length b.length k ≤ 0 := by unfold bandLo; omega
  have h2 : bandHi a.length b.length k ≤ a.length ∧ 0 ≤ bandHi a.length b.length k ∧ (a.length : Int) - b.length ≤ bandHi a.length b.length k := by unfold bandHi; omega
  have h3 := (band_edges_in a.length b.length k hk).2.2.1
  obtain ⟨c0, hc0⟩ := Int.eq_ofNat_of_zero_le (show 0 ≤ max 0 ((i : Int) - bandHi a.length b.length k) by omega)
  have r0 : Row a b k i c0 (max 0 ((i : Int) - bandHi a.length b.length k)) [] := by
    refine ⟨rfl, by simp; omega, fun j hj => ?_, fun j => ?_, fun j hj hj' hrel => ?_⟩
    · rw [rowAt_out _ _ _ (by simp only [List.length_nil]; omega)]; have := D_ge a b i j; unfold far; omega
    · rw [rowAt_out _ _ _ (by simp only [List.length_nil]; omega)]; exact Int.le_refl _
    · have := rel_in hk hi hj' hrel; omega
  obtain ⟨l', c', e1, e2, e3⟩ := band_next_l0 a b ha hb k hk i hi af al hA (min (b.length : Int) ((i : Int) - bandLo a.length b.length k) + 1 - c0).toNat c0 _ [] (by omega) r0
  refine ⟨_, l', .inr ⟨i, rfl, c', e1, e2⟩, Ev.congr (fun K => ?_) e3⟩
  unfold band_next.f
  rw [mx_max, mn_min, wr (by omega) (by omega), wr (by omega) (by omega), hc0]
theorem band_Within_l0 (a b : List Int) (ha : a.length ≤ 100000) (hb : b.length ≤ 100000) (k : Int) (hk0 : 0 ≤ k) (hk' : k < 9223372036854775808) (hk : max ((a.length : Int) - b.length) ((b.length : Int) - a.length) ≤ k) : ∀ (d i : Nat) (af : Int) (al : List Int), i + d = a.length + 1 → Above a b k i af al →
    Ev (fun K => band_Within.l0 K a b k (bandLo a.length b.length k) (bandHi a.length b.length k) ((a.length : Int) + 1) i af al) (if (dist a b : Int) ≤ k then ((dist a b : Int), ((cells a.length b.length k : Nat) : Int), 0) else (0, 0, 3)) := by
  intro d
  induction d with
  | zero =>
    intro i af al hi hA
    rcases hA with ⟨h, _⟩ | ⟨q, hq, c, hc, hr⟩
    · omega
    · obtain rfl : q = a.length := by omega
      obtain ⟨f1, f2, f3⟩ : 0 ≤ af ∧ af ≤ 200000 ∧ al.length ≤ 200000 := by
        have := hr.first
        have := hr.len
        have : -(b.length : Int) ≤ bandLo a.length b.length k := by unfold bandLo; omega
        have : (a.length : Int) - b.length ≤ bandHi a.length b.length k := by unfold bandHi; omega
        omega
      refine ⟨1000000, fun K hK => ?_⟩
      obtain ⟨K, rfl⟩ : ∃ q, K = q + 1 := ⟨K - 1, by omega⟩
      have hlow := hr.low b.length (by omega)
      have heq := fun h1 h => hr.eq b.length h1 (by omega) h
      have hin := fun h => rel_in (i := a.length) (j := b.length) hk (by omega) (by omega) h
      unfold rel at heq hin
      rw [D_all] at hlow heq hin
      show band_Within.l0 (K + 1) a b k (bandLo a.length b.length k) (bandHi a.length b.length k) ((a.length : Int) + 1) i af al = _
      rw [band_Within.l0, if_neg (by omega), band_line_at_eq af al b.length (by omega) (by omega) (by omega), bs]
      by_cases h : (dist a b : Int) ≤ k
      · have := hin (by omega)
        rw [heq (by omega) (by omega), if_pos h, if_pos h, band_Cells_eq a.length b.length k ha hb hk0 hk' K (by omega), bs]
      · rw [if_neg (by omega), if_neg h]
  | succ d ih =>
    intro i af al hi hA
    obtain ⟨f', l', h1, h2⟩ := band_next_eq a b ha hb k hk i (by omega) af al hA
    have h3 := ih (i + 1) f' l' (by omega) h1
    refine Ev.step (f := fun K => (band_next.f K a b i (bandLo a.length b.length k) (bandHi a.length b.length k) af al).bind fun bt => band_Within.l0 K a b k (bandLo a.length b.length k) (bandHi a.length b.length k) ((a.length : Int) + 1) ((i : Int) + 1) bt.1 bt.2) (fun K => ?_) (Ev.bind h2 (by simpa using h3))
    rw [band_Within.l0, if_pos (by omega), wr (by omega) (by omega)]
theorem band_Within_eq (a b : List Int) (ha : a.length ≤ 100000) (hb : b.length ≤ 100000) (k : Int) (hk0 : 0 ≤ k) (hk' : k < 9223372036854775808) :
    Ev (fun K => band_Within.f K a b k) (if (dist a b : Int) ≤ k then ((dist a b : Int), ((cells a.length b.length k : Nat) : Int), 0) else (0, 0, 3)) := by
  have hd := D_ge a b a.length b.length
  rw [D_all] at hd
  by_cases h : max ((a.length : Int) - b.length) ((b.length : Int) - a.length) ≤ k
  · refine Ev.congr (fun K => ?_) (band_Within_l0 a b ha hb k hk0 hk' h (a.length + 1) 0 0 [] (by omega) (.inl ⟨rfl, rfl, rfl⟩))
    unfold band_Within.f
    rw [if_neg (by omega), band_edges_some a.length b.length k (by omega) (by omega) hk' h, bs, itt, wr (by omega) (by omega)]
    rfl
  · rw [if_neg (by omega)]
    refine Ev.congr (fun K => ?_) (Ev.now _)
    unfold band_Within.f
    rw [if_neg (by omega), band_edges_none a.length b.length k (by omega) (by omega) (by omega), bs, ift]
end Go.Proofs.YtdiojfaenfggkaaGreat.PTopNear
namespace Go.Proofs.YtdiojfaenfggkaaGreat.PTopNear
open Go.RowKit Go.Proofs.YtdiojfaenfggkaaGreatW.PrintWords Go.Proofs.YtdiojfaenfggkaaGreatW.PrintLast Go.Proofs.YtdiojfaenfggkaaGreatW.PrintMore
attribute [local go_sem] max2_int min2_int max_two min_two max_three min_three max_four min_four
set_option linter.unusedVariables false
set_option linter.unusedSimpArgs false
set_option maxHeartbeats 8000000 in
set_option maxRecDepth 100000 in
theorem port_Near.neg (mm : Int) (v0 v1 : Value) (k : Int) (hk : k < 0) (w : World) (A0 A1 : Option Addr) (n0 n1 c0 c1 : Nat) :
    Calls Tryz.prog 20 #[.int .i64 mm, .slice A0 n0 c0, .slice A1 n1 c1, .int .i64 k] w fun e w' => e = .returned (.tuple #[.int .i64 0, .int .i64 1]) ∧ Below w.heap.size w w' := by
  have d1 : decide (k < 0) = true := decide_eq_true hk
  clear hk
  go_enter Tryz.func20, Tryz.ntmps20
  go_wp2_with fail
  go_ret2
  exact ⟨rfl, Below.refl _ _⟩
set_option maxHeartbeats 8000000 in
set_option maxRecDepth 100000 in
theorem port_Near.of {m : Bool} {A0 A1 : Option Addr} {c0 c1 : Nat} {l0 l1 : List Int} {la lb : List (List Int)} {x y u v : List Int} (hC : CutIs m l0 l1 la lb x y u v) (w : World) (h0 : TextIn w A0 c0 l0) (h1 : TextIn w A1 c1 l1) (k : Int) (hk : 0 ≤ k) (hk' : k < 9223372036854775808) :
    Calls Tryz.prog 20 #[.int .i64 (modeOf m), .slice A0 l0.length c0, .slice A1 l1.length c1, .int .i64 k] w fun e w' => e = .returned (.tuple #[.int .i64 (if (dist u v : Int) ≤ k then (dist u v : Int) else 0), .int .i64 (if (dist u v : Int) ≤ k then 0 else 3)]) ∧ Below w.heap.size w w' := by
  have hun : u.length ≤ 24 := by have := hC.nu; have := hC.nx; have := hC.na; omega
  have hvn : v.length ≤ 24 := by have := hC.nv; have := hC.ny; have := hC.nb; omega
  obtain ⟨K, hK⟩ := (band_Within_eq u v (by omega) (by omega) k hk hk').rounds
  have HCU := Aside0.mk (port_cut.of hC w h0 h1)
  have d1 : decide (k < 0) = false := decide_eq_false (by omega)
  have HBW : ∃ r2 : Int, Aside0 (∀ W (Au Av : Option Addr) (cu cv : Nat) (hr0 : Kd.C (Kd.int .i64) W Au u.length u) (hc0 : u.length ≤ cu) (hr1 : Kd.C (Kd.int .i64) W Av v.length v) (hc1 : v.length ≤ cv), Calls Tryz.prog 46 #[.slice Au u.length cu, .slice Av v.length cv, .int .i64 k] W fun e w' => e = .returned (.tuple #[.int .i64 (if (dist u v : Int) ≤ k then (dist u v : Int) else 0), .int .i64 r2, .int .i64 (if (dist u v : Int) ≤ k then 0 else 3)]) ∧ Below W.heap.size W w') := by
    by_cases hd : (dist u v : Int) ≤ k
    · rw [if_pos hd] at hK
      exact ⟨_, ⟨fun W Au Av cu cv a b c d => by rw [if_pos hd, if_pos hd]; exact band_Within.calls K Au cu u Av cv v k _ _ _ W a b c d hK⟩⟩
    · rw [if_neg hd] at hK
      exact ⟨_, ⟨fun W Au Av cu cv a b c d => by rw [if_neg hd, if_neg hd]; exact band_Within.calls K Au cu u Av cv v k _ _ _ W a b c d hK⟩⟩
  obtain ⟨r2, HBW⟩ := HBW
  generalize (if (dist u v : Int) ≤ k then (dist u v : Int) else 0) = R at HBW ⊢
  generalize (if (dist u v : Int) ≤ k then (0 : Int) else 3) = E at HBW ⊢
  generalize trim_Of.p x y = p at HCU
  generalize trim_Of.s x y = s at HCU
  generalize modeOf m = mm at HCU ⊢
  clear hC h0 h1 hk hk' hun hvn hK
  go_enter Tryz.func20, Tryz.ntmps20
  go_upto_region 4 with (go_at_call 45; ((with_reducible refine HCU.out.mono ?_); rintro e w4 ⟨Aa, Ab, Ax, Ay, Au, Av, ca, cb, cx, cy, cu, cv, rfl, ht, hbl⟩; have HB := Aside0.mk hbl; clear HCU hbl; have HT := Aside0.mk ht; clear ht))
  have HT2 := Aside0.mk (HT.out.below (below_alloc (Below.refl w4.heap.size w4) (Obj.cells #[.slice Aa la.length ca, .slice Ab lb.length cb, .slice Ax x.length cx, .slice Ay y.length cy, .int .i64 (p : Int), .int .i64 (s : Int), .slice Au u.length cu, .slice Av v.length cv] 81)))
  have HB2 := Aside0.mk (below_alloc HB.out (Obj.cells #[.slice Aa la.length ca, .slice Ab lb.length cb, .slice Ax x.length cx, .slice Ay y.length cy, .int .i64 (p : Int), .int .i64 (s : Int), .slice Au u.length cu, .slice Av v.length cv] 81))
  have K17 := Aside0.mk (alloc_at w4 (Obj.cells #[.slice Aa la.length ca, .slice Ab lb.length cb, .slice Ax x.length cx, .slice Ay y.length cy, .int .i64 (p : Int), .int .i64 (s : Int), .slice Au u.length cu, .slice Av v.length cv] 81))
  have hz6 := (blk_cell K17.out 6).trans (show _ = some (.slice Au u.length cu) from rfl)
  have hz7 := (blk_cell K17.out 7).trans (show _ = some (.slice Av v.length cv) from rfl)
  clear HT HB
  generalize w4.alloc (Obj.cells #[.slice Aa la.length ca, .slice Ab lb.length cb, .slice Ax x.length cx, .slice Ay y.length cy, .int .i64 (p : Int), .int .i64 (s : Int), .slice Au u.length cu, .slice Av v.length cv] 81) = w5 at K17 HT2 HB2 hz6 hz7 ⊢
  generalize w4.heap.size = gk at K17 hz6 hz7 ⊢
  go_wp2_with (go_at_call 46; ((with_reducible refine (HBW.out _ Au Av cu cv HT2.out.fu HT2.out.fu' HT2.out.fv HT2.out.fv').mono ?_); rintro e w6 ⟨rfl, hbl⟩; have HB3 := Aside0.mk (below_step HB2.out hbl); clear hbl))
  go_ret2
  exact ⟨rfl, HB3.out⟩
end Go.Proofs.YtdiojfaenfggkaaGreat.PTopNear
namespace Go.Proofs.YtdiojfaenfggkaaGreat.PTopNear
open Go.RowKit Go.Proofs.YtdiojfaenfggkaaGreatW.PrintWords Go.Proofs.YtdiojfaenfggkaaGreatW.PrintLast Go.Proofs.YtdiojfaenfggkaaGreatW.PrintMore
attribute [local go_sem] max2_int min2_int max_two min_two max_three min_three max_four min_four
set_option linter.unusedVariables false
set_option linter.unusedSimpArgs false
theorem lcpN_take : ∀ a b : List Int, a.take (lcpN a b) = b.take (lcpN a b)
  | [], b => by simp [lcpN]
  | x :: a, [] => by simp [lcpN]
  | x :: a, y :: b => by
    unfold lcpN
    split
    · next h => rw [h, List.take_succ_cons, List.take_succ_cons, lcpN_take a b]
    · simp
theorem take_rev_end (a : List Int) (s : Nat) (h : s ≤ a.length) : a.drop (a.length - s) = (a.reverse.take s).reverse := by
  rw [List.take_reverse, List.reverse_reverse]
theorem mid_split (x y : List Int) : ∃ P S, x = P ++ (trim_Mid.x x y ++ S) ∧ y = P ++ (trim_Mid.y x y ++ S) ∧ P.length = trim_Of.p x y ∧ S.length = trim_Of.s x y := by
  obtain ⟨h1, h2⟩ := trim_Of.le x y
  have e1 := lcpN_take x y
  have e2 := lcpN_take (x.drop (lcpN x y)).reverse (y.drop (lcpN x y)).reverse
  have hp : lcpN x y = trim_Of.p x y := rfl
  have hs : lcpN (x.drop (lcpN x y)).reverse (y.drop (lcpN x y)).reverse = trim_Of.s x y := rfl
  rw [hs] at e2
  rw [hp] at e1 e2
  unfold trim_Mid.x trim_Mid.y
  generalize trim_Of.p x y = p at *
  generalize trim_Of.s x y = s at *
  clear hp hs
  have f1 := take_rev_end (x.drop p) s (by rw [List.length_drop]; omega)
  have f2 := take_rev_end (y.drop p) s (by rw [List.length_drop]; omega)
  rw [e2, ← f2, List.drop_drop, List.drop_drop, List.length_drop, List.length_drop, show p + (x.length - p - s) = x.length - s by omega, show p + (y.length - p - s) = y.length - s by omega] at f1
  refine ⟨x.take p, x.drop (x.length - s), ?_, ?_, by rw [List.length_take]; omega, by rw [List.length_drop]; omega⟩
  · rw [List.drop_take, ← List.append_assoc]
    conv => lhs; rw [← List.take_append_drop (x.length - s) x]
    congr 1
    conv => lhs; rw [← List.take_append_drop p (x.take (x.length - s)), List.take_take, Nat.min_eq_left (by omega)]
    rw [List.drop_take]
  · rw [e1, f1, List.drop_take, ← List.append_assoc]
    conv => lhs; rw [← List.take_append_drop (y.length - s) y]
    congr 1
    conv => lhs; rw [← List.take_append_drop p (y.take (y.length - s)), List.take_take, Nat.min_eq_left (by omega)]
    rw [List.drop_take]
theorem mid_lcs (x y : List Int) : lcs x y = trim_Of.p x y + lcs (trim_Mid.x x y) (trim_Mid.y x y) + trim_Of.s x y := by
  obtain ⟨P, S, hx, hy, hp, hs⟩ := mid_split x y
  have : lcs x y = lcs (P ++ (trim_Mid.x x y ++ S)) (P ++ (trim_Mid.y x y ++ S)) := by rw [← hx, ← hy]
  rw [this, lcs_prefix, lcs_suffix]
  omega
theorem mid_dist (x y : List Int) : dist (trim_Mid.x x y) (trim_Mid.y x y) = dist x y := by
  have h1 := dist_add x y
  have h2 := dist_add (trim_Mid.x x y) (trim_Mid.y x y)
  have h3 := mid_lcs x y
  have h4 := mid_len x y
  have h5 := trim_Of.le x y
  omega
theorem rd_N (l : List Int) (i : Nat) : rd l (i : Int) = l.getD i 0 := by unfold rd; rw [Int.toNat_natCast]
theorem getD_mid (P u S : List Int) (i : Nat) : (i < P.length → (P ++ (u ++ S)).getD i 0 = P.getD i 0) ∧ (i < u.length → (P ++ (u ++ S)).getD (i + P.length) 0 = u.getD i 0) ∧ ((P ++ (u ++ S)).getD (P.length + u.length + i) 0 = S.getD i 0) := by
  refine ⟨fun h => ?_, fun h => ?_, ?_⟩
  · simp only [List.getD_eq_getElem?_getD]; rw [List.getElem?_append_left h]
  · simp only [List.getD_eq_getElem?_getD]; rw [List.getElem?_append_right (by omega), show i + P.length - P.length = i by omega, List.getElem?_append_left h]
  · simp only [List.getD_eq_getElem?_getD]; rw [List.getElem?_append_right (by omega), List.getElem?_append_right (by omega)]; congr 2; omega
theorem diagL_mem {n m s : Nat} {q : Nat × Nat} (h : q ∈ diagL n m s) : ∃ i, i < s ∧ q = (n + i, m + i) := by
  obtain ⟨i, hi, rfl⟩ := List.mem_map.1 h
  exact ⟨i, List.mem_range.1 hi, rfl⟩
theorem diagL_rise (n m s : Nat) : (diagL n m s).Pairwise (fun x y => x.1 < y.1 ∧ x.2 < y.2) := by
  unfold diagL
  rw [List.pairwise_map]
  refine List.Pairwise.imp ?_ List.pairwise_lt_range
  intro a b h
  simp only
  omega
theorem growL_good {x y : List Int} {qs : List (Nat × Nat)} (h : GoodN (trim_Mid.x x y) (trim_Mid.y x y) qs) (hl : qs.length = lcs (trim_Mid.x x y) (trim_Mid.y x y)) :
    GoodN x y (growL (trim_Of.p x y) (trim_Of.s x y) x.length y.length qs) ∧ (growL (trim_Of.p x y) (trim_Of.s x y) x.length y.length qs).length = lcs x y := by
  have hlc := mid_lcs x y
  have hle := trim_Of.le x y
  obtain ⟨P, S, hx, hy, hp, hs⟩ := mid_split x y
  have hml := mid_len x y
  generalize trim_Mid.x x y = u at *
  generalize trim_Mid.y x y = v at *
  generalize trim_Of.p x y = p at *
  generalize trim_Of.s x y = s at *
  subst hp hs
  have e1 : x.length = P.length + u.length + S.length := by rw [hml.1]; omega
  have e2 : y.length = P.length + v.length + S.length := by rw [hml.2]; omega
  have e3 : x.length - S.length = P.length + u.length := by omega
  have e4 : y.length - S.length = P.length + v.length := by omega
  unfold growL
  rw [e3, e4]
  refine ⟨⟨fun q hq => ?_, ?_⟩, ?_⟩
  · rw [rd_N, rd_N]
    rcases List.mem_append.1 hq with hq | hq
    · rcases List.mem_append.1 hq with hq | hq
      · obtain ⟨i, hi, rfl⟩ := diagL_mem hq
        simp only [Nat.zero_add]
        refine ⟨by omega, by omega, ?_⟩
        rw [hx, hy, (getD_mid P u S i).1 hi, (getD_mid P v S i).1 hi]
      · obtain ⟨q', hq', rfl⟩ := List.mem_map.1 hq
        obtain ⟨h1, h2, h3⟩ := h.at_ q' hq'
        simp only
        rw [rd_N, rd_N] at h3
        refine ⟨by omega, by omega, ?_⟩
        rw [hx, hy, (getD_mid P u S q'.1).2.1 h1, (getD_mid P v S q'.2).2.1 h2, h3]
    · obtain ⟨i, hi, rfl⟩ := diagL_mem hq
      simp only
      refine ⟨by omega, by omega, ?_⟩
      rw [hx, hy, (getD_mid P u S i).2.2, (getD_mid P v S i).2.2]
  · rw [List.pairwise_append, List.pairwise_append]
    refine ⟨⟨diagL_rise _ _ _, ?_, fun a ha b hb => ?_⟩, diagL_rise _ _ _, fun a ha b hb => ?_⟩
    · rw [List.pairwise_map]
      refine h.rise.imp ?_
      intro a b hab
      simp only
      omega
    · obtain ⟨i, hi, rfl⟩ := diagL_mem ha
      obtain ⟨q, _, rfl⟩ := List.mem_map.1 hb
      simp only
      omega
    · obtain ⟨i, hi, rfl⟩ := diagL_mem hb
      rcases List.mem_append.1 ha with ha | ha
      · obtain ⟨j, hj, rfl⟩ := diagL_mem ha
        simp only
        omega
      · obtain ⟨q, hq, rfl⟩ := List.mem_map.1 ha
        obtain ⟨h1, h2, _⟩ := h.at_ q hq
        simp only
        omega
  · simp only [List.length_append, List.length_map, diagL, List.length_range]
    omega
end Go.Proofs.YtdiojfaenfggkaaGreat.PTopNear
namespace Go.Proofs.YtdiojfaenfggkaaGreat.PTopNear
open Go.RowKit Go.Proofs.YtdiojfaenfggkaaGreatW.PrintWords Go.Proofs.YtdiojfaenfggkaaGreatW.PrintLast Go.Proofs.YtdiojfaenfggkaaGreatW.PrintMore
attribute [local go_sem] max2_int min2_int max_two min_two max_three min_three max_four min_four
set_option linter.unusedVariables false
set_option linter.unusedSimpArgs false
theorem own_slice {w : World} {base : Nat} {e : TypeId} {size n : Nat} {v : Value} {xs : List Value} (h : w.ownsRow base e size v n xs) : ∃ A c, v = .slice A n c := by
  rcases h.2 with ⟨rfl, rfl⟩ | ⟨g, cap, cur, rfl, _⟩
  · exact ⟨none, 0, rfl⟩
  · exact ⟨_, _, rfl⟩
set_option maxHeartbeats 8000000 in
set_option maxRecDepth 100000 in
theorem port_Diff.of {m : Bool} {A0 A1 : Option Addr} {c0 c1 : Nat} {l0 l1 : List Int} {la lb : List (List Int)} {x y u v : List Int} (hC : CutIs m l0 l1 la lb x y u v) (w : World) (h0 : TextIn w A0 c0 l0) (h1 : TextIn w A1 c1 l1) :
    Calls Tryz.prog 16 #[.int .i64 (modeOf m), .int .i64 0, .slice A0 l0.length c0, .slice A1 l1.length c1, .agg #[.int .i64 1000, .int .i64 1099511627776]] w fun e w' => ∃ Al As cl cs ns, ∃ ls : List (Nat × Nat), e = .returned (.tuple #[.agg #[.int .i64 (la.length : Int), .int .i64 (lb.length : Int), .int .i64 (ls.length : Int), .int .i64 ((la.length : Int) + (lb.length : Int) - 2 * (ls.length : Int)), .slice Al ls.length cl, .slice As ns cs], .int .i64 0]) ∧ isLeast x y 0 0 (ls.map toP) ∧ GoodN x y ls ∧ ls.length = lcs x y ∧ Kd.R k54 54 w' 0 (fun _ => True) (.slice Al ls.length cl) (ls.map toP) ∧ Below w.heap.size w w' := by
  have HRD := Aside0.mk (fun W (hb : Below w.heap.size w W) => port_ready.of hC W (h0.below hb) (h1.below hb))
  have hna := hC.na
  have hnb := hC.nb
  have hnx := hC.nx
  have hny := hC.ny
  have hun : u.length ≤ 24 := by have := hC.nu; omega
  have hvn : v.length ≤ 24 := by have := hC.nv; omega
  have HRU := Aside0.mk (fun W (eng : Nat) (he : eng = 1 ∨ eng = 7 ∧ 1 ≤ v.length) (Au Av : Option Addr) (cu cv : Nat) (hr0 : Kd.C (Kd.int .i64) W Au u.length u) (hc0 : u.length ≤ cu) (hr1 : Kd.C (Kd.int .i64) W Av v.length v) (hc1 : v.length ≤ cv) => port_run.small eng Au Av cu cv u v W hr0 hc0 hr1 hc1 hun hvn hC.wu hC.wv he)
  have HGR := Aside0.mk (fun W (A : Option Addr) (c : Nat) (qs : List (Nat × Nat)) (hr : Kd.C k54 W A qs.length (qs.map toP)) (hg : GoodN u v qs) (hl : qs.length = lcs u v) => trim_Grow.small A c qs (trim_Of.p x y) (trim_Of.s x y) la.length lb.length W hr (by omega) (by omega) (by have := (trim_Of.le x y).1; omega) (by have := (trim_Of.le x y).2; omega) (fun q hq => by have h := hg.at_ q hq; have h3 := hC.nu; have h4 := hC.nv; have h5 := trim_Of.le x y; omega) (by have := lcs_le_left u v; omega))
  have HGG := Aside0.mk (fun (qs : List (Nat × Nat)) (hg : GoodN u v qs) (hl : qs.length = lcs u v) => show GoodN x y (growL (trim_Of.p x y) (trim_Of.s x y) la.length lb.length qs) ∧ (growL (trim_Of.p x y) (trim_Of.s x y) la.length lb.length qs).length = lcs x y by
    have hu := hC.eu
    have hv := hC.ev
    subst hu hv
    rw [← hnx, ← hny]
    exact growL_good hg hl)
  have HCA := Aside0.mk (fun W (Ax Ay A : Option Addr) (cx cy c : Nat) (qs : List (Nat × Nat)) (hr0 : Kd.C (Kd.int .i64) W Ax x.length x) (hc0 : x.length ≤ cx) (hr1 : Kd.C (Kd.int .i64) W Ay y.length y) (hc1 : y.length ≤ cy) (hr2 : Kd.C k54 W A qs.length (qs.map toP)) (hg : GoodN x y qs) (hl : qs.length = lcs x y) => canon_Of.calls Ax Ay A cx cy c x y qs W hr0 hc0 hr1 hc1 hr2 hg hl (by omega) (by omega))
  have hll := lcs_le_left x y
  have HED := Aside0.mk (fun W (Aa Ab A : Option Addr) (ca cb c : Nat) (qs : List (Nat × Nat)) (hr0 : Kd.C (Kd.slice 5 (Kd.int .u8)) W Aa la.length la) (hc0 : la.length ≤ ca) (hr1 : Kd.C (Kd.slice 5 (Kd.int .u8)) W Ab lb.length lb) (hc1 : lb.length ≤ cb) (hr2 : Kd.C k54 W A qs.length (qs.map toP)) (hg : GoodN x y qs) (hl : qs.length = lcs x y) => edit_Make.calls Aa Ab A ca cb c la lb x y _ qs W hr0 hc0 hr1 hc1 hr2 (by rw [names_some la lb (by omega) (fun t ht => by rcases List.mem_append.1 ht with h | h; (have := hC.ta t h; omega); (have := hC.tb t h; omega)), hC.ex, hC.ey]) hg (by omega) (by omega) hnx hny (by omega) (fun t h => by have := hC.ta t h; omega) (fun t h => by have := hC.tb t h; omega))
  have HLL := Aside0.mk (show lcs x y ≤ 24 by omega)
  generalize trim_Of.p x y = p at HRD HGR HGG
  generalize trim_Of.s x y = s at HRD HGR HGG
  generalize modeOf m = mm at HRD ⊢
  clear hC h0 h1 hun hvn hnx hny hll
  go_enter Tryz.func16, Tryz.ntmps16
  go_upto_region 1 with fail
  obtain ⟨k0, k1⟩ := alloc2 w (Obj.cells #[.int .i64 1000, .int .i64 1099511627776] 40) (Obj.cells #[.int .i64 0, .int .i64 0, .int .i64 0, .int .i64 0, .slice none 0 0, .slice none 0 0] 35)
  have HB := Aside0.mk (below_alloc (below_alloc (Below.refl w.heap.size w) (Obj.cells #[.int .i64 1000, .int .i64 1099511627776] 40)) (Obj.cells #[.int .i64 0, .int .i64 0, .int .i64 0, .int .i64 0, .slice none 0 0, .slice none 0 0] 35))
  have HL := Aside0.mk (show w.heap.size < w.heap.size + 1 from Nat.lt_succ_self w.heap.size)
  have K10 := Aside0.mk k1
  have hm0 := (blk_cell k0 0).trans (show _ = some (.int .i64 1000) from rfl)
  have hm1 := (blk_cell k0 1).trans (show _ = some (.int .i64 1099511627776) from rfl)
  clear k0 k1
  generalize (w.alloc (Obj.cells #[.int .i64 1000, .int .i64 1099511627776] 40)).alloc (Obj.cells #[.int .i64 0, .int .i64 0, .int .i64 0, .int .i64 0, .slice none 0 0, .slice none 0 0] 35) = w1 at K10 HB hm0 hm1 ⊢
  generalize w.heap.size + 1 = gt at K10 HL ⊢
  go_upto_region 2 with (go_at_call 38; ((with_reducible refine (HRD.out _ HB.out).mono ?_); rintro e w2 ⟨Aa, Ab, Ax, Ay, Au, Av, ca, cb, cx, cy, cu, cv, eng, rfl, he, ht, hbl⟩; have HE := Aside0.mk he; have HT := Aside0.mk ht; have n0_ := Aside0.mk (below_step HB.out hbl); have n1_ := Aside0.mk (blk_below K10.out hbl); clear HRD HB K10 he ht hbl hm0 hm1; have HB := n0_; have K10 := n1_; clear n0_ n1_))
  have hbl := below_alloc (Below.refl w2.heap.size w2) (Obj.cells #[.slice Aa la.length ca, .slice Ab lb.length cb, .slice Ax x.length cx, .slice Ay y.length cy, .int .i64 (p : Int), .int .i64 (s : Int), .slice Au u.length cu, .slice Av v.length cv] 81)
  have K12 := Aside0.mk (alloc_at w2 (Obj.cells #[.slice Aa la.length ca, .slice Ab lb.length cb, .slice Ax x.length cx, .slice Ay y.length cy, .int .i64 (p : Int), .int .i64 (s : Int), .slice Au u.length cu, .slice Av v.length cv] 81))
  have nT_ := Aside0.mk (HT.out.below hbl); have n0_ := Aside0.mk (below_step HB.out hbl); have nK10_ := Aside0.mk (blk_below K10.out hbl); clear HT HB K10  hbl; have HT := nT_; have HB := n0_; have K10 := nK10_; clear nT_ n0_ nK10_
  have hz0 := (blk_cell K12.out 0).trans (show _ = some (.slice Aa la.length ca) from rfl); have hz1 := (blk_cell K12.out 1).trans (show _ = some (.slice Ab lb.length cb) from rfl)
  generalize w2.alloc (Obj.cells #[.slice Aa la.length ca, .slice Ab lb.length cb, .slice Ax x.length cx, .slice Ay y.length cy, .int .i64 (p : Int), .int .i64 (s : Int), .slice Au u.length cu, .slice Av v.length cv] 81) = w3 at K12 K10 HB HT hz0 hz1 ⊢
  generalize w2.heap.size = gk at K12 hz0 hz1 ⊢
  go_upto_region 4 with fail
  go_region
  have hbl := below_drew1 (Below.refl w3.heap.size w3)
  have nT_ := Aside0.mk (HT.out.below hbl); have n0_ := Aside0.mk (below_step HB.out hbl); have nK10_ := Aside0.mk (blk_below K10.out hbl); have nK12_ := Aside0.mk (blk_below K12.out hbl); clear HT HB K10 K12  hbl; have HT := nT_; have HB := n0_; have K10 := nK10_; have K12 := nK12_; clear nT_ n0_ nK10_ nK12_
  clear hz0 hz1
  have hz6 := (blk_cell K12.out 6).trans (show _ = some (.slice Au u.length cu) from rfl); have hz7 := (blk_cell K12.out 7).trans (show _ = some (.slice Av v.length cv) from rfl)
  generalize w3.drew = w4 at K12 K10 HB HT hz6 hz7 ⊢
  go_wp2_with (first
    | (go_at_call 39; ((with_reducible refine (HRU.out _ eng HE.out Au Av cu cv HT.out.fu HT.out.fu' HT.out.fv HT.out.fv').mono ?_); rintro e w5 ⟨vq, st, qs, rfl, hv, hg, hl, hbl⟩; obtain ⟨Aq, cq, eq_⟩ := Kd.R_slice hv; rw [List.length_map] at eq_; subst eq_; have nT_ := Aside0.mk (HT.out.below hbl); have n0_ := Aside0.mk (below_step HB.out hbl); have nK10_ := Aside0.mk (blk_below K10.out hbl); have nK12_ := Aside0.mk (blk_below K12.out hbl); clear HT HB K10 K12  hbl; have HT := nT_; have HB := n0_; have K10 := nK10_; have K12 := nK12_; clear nT_ n0_ nK10_ nK12_ ; have HQ := Aside0.mk (Kd.R_lower hv (Nat.zero_le _)); have HG := Aside0.mk hg; have HLQ := Aside0.mk hl; clear hv hg hl hz6 hz7 HRU HE; have hz4 := (blk_cell K12.out 4).trans (show _ = some (.int .i64 (p : Int)) from rfl); have hz5 := (blk_cell K12.out 5).trans (show _ = some (.int .i64 (s : Int)) from rfl)))
    | (go_at_call 40; ((with_reducible refine (HGR.out _ Aq cq qs (by have h_ := (Kd.R_reads' HQ.out).2.2; rw [List.length_map] at h_; exact h_) HG.out HLQ.out).mono ?_); rintro e w6 ⟨vg, rfl, hv, hbl⟩; obtain ⟨hg, hl⟩ := HGG.out qs HG.out HLQ.out; have nT_ := Aside0.mk (HT.out.below hbl); have n0_ := Aside0.mk (below_step HB.out hbl); have nK10_ := Aside0.mk (blk_below K10.out hbl); have nK12_ := Aside0.mk (blk_below K12.out hbl); clear HT HB K10 K12  hbl; have HT := nT_; have HB := n0_; have K10 := nK10_; have K12 := nK12_; clear nT_ n0_ nK10_ nK12_ ; clear HQ HG HLQ HGR HGG hz4 hz5; generalize growL p s la.length lb.length qs = gs at hv hg hl; obtain ⟨Ag, cg, eq_⟩ := Kd.R_slice hv; rw [List.length_map] at eq_; subst eq_; have HQ := Aside0.mk (Kd.R_lower hv (Nat.zero_le _)); have HG := Aside0.mk hg; have HLQ := Aside0.mk hl; clear hv hg hl; have hz2 := (blk_cell K12.out 2).trans (show _ = some (.slice Ax x.length cx) from rfl); have hz3 := (blk_cell K12.out 3).trans (show _ = some (.slice Ay y.length cy) from rfl)))
    | (go_at_call 41; ((with_reducible refine (HCA.out _ Ax Ay Ag cx cy cg gs HT.out.fx HT.out.fx' HT.out.fy HT.out.fy' (by have h_ := (Kd.R_reads' HQ.out).2.2; rw [List.length_map] at h_; exact h_) HG.out HLQ.out).mono ?_); rintro e w7 ⟨vl, ls, rfl, hi, hg, hl, hv, hbl⟩; have nT_ := Aside0.mk (HT.out.below hbl); have n0_ := Aside0.mk (below_step HB.out hbl); have nK10_ := Aside0.mk (blk_below K10.out hbl); have nK12_ := Aside0.mk (blk_below K12.out hbl); clear HT HB K10 K12  hbl; have HT := nT_; have HB := n0_; have K10 := nK10_; have K12 := nK12_; clear nT_ n0_ nK10_ nK12_ ; clear HQ HG HLQ HCA hz2 hz3; obtain ⟨Al, cl, eq_⟩ := Kd.R_slice hv; rw [List.length_map] at eq_; subst eq_; have HQ := Aside0.mk (Kd.R_lower hv (Nat.zero_le _)); have HIL := Aside0.mk hi; have HG := Aside0.mk hg; have HLQ := Aside0.mk hl; clear hv hi hg hl; have hz0 := (blk_cell K12.out 0).trans (show _ = some (.slice Aa la.length ca) from rfl); have hz1 := (blk_cell K12.out 1).trans (show _ = some (.slice Ab lb.length cb) from rfl)))
    | (go_at_call 42; ((with_reducible refine (HED.out _ Aa Ab Al ca cb cl ls HT.out.fa HT.out.fa' HT.out.fb HT.out.fb' (by have h_ := (Kd.R_reads' HQ.out).2.2; rw [List.length_map] at h_; exact h_) HG.out HLQ.out).mono ?_); rintro e w8 ⟨vs, ns, xs, rfl, ho, hbl⟩; have nT_ := Aside0.mk (HT.out.below hbl); have n0_ := Aside0.mk (below_step HB.out hbl); have nK10_ := Aside0.mk (blk_below K10.out hbl); have nK12_ := Aside0.mk (blk_below K12.out hbl); have mHQ_ := Aside0.mk (Kd.R_below HQ.out hbl); clear HT HB K10 K12 HQ hbl; have HT := nT_; have HB := n0_; have K10 := nK10_; have K12 := nK12_; have HQ := mHQ_; clear nT_ n0_ nK10_ nK12_ mHQ_; obtain ⟨As, cs, rfl⟩ := own_slice ho; clear ho HED hz0 hz1; have hla : ls.length ≤ 24 := (by have := HLQ.out; have := HLL.out; omega); have hw1 : IntKind.i64.wrap ((la.length : Int) + (lb.length : Int)) = (la.length : Int) + (lb.length : Int) := (by rw [IntWalk.i64_in _ (by omega)]); have hw2 : IntKind.i64.wrap (2 * (ls.length : Int)) = 2 * (ls.length : Int) := (by rw [IntWalk.i64_in _ (by omega)]); have hw3 : IntKind.i64.wrap ((la.length : Int) + (lb.length : Int) - 2 * (ls.length : Int)) = (la.length : Int) + (lb.length : Int) - 2 * (ls.length : Int) := (by rw [IntWalk.i64_in _ (by omega)]); have hy0 := (blk_cell K10.out 0).trans (show _ = some (.int .i64 0) from rfl); have hg0 := blk_frozen K10.out 0; have hy1 := (blk_cell K10.out 1).trans (show _ = some (.int .i64 0) from rfl); have hg1 := blk_frozen K10.out 1; have hy2 := (blk_cell K10.out 2).trans (show _ = some (.int .i64 0) from rfl); have hg2 := blk_frozen K10.out 2; have hy3 := (blk_cell K10.out 3).trans (show _ = some (.int .i64 0) from rfl); have hg3 := blk_frozen K10.out 3; have hy4 := (blk_cell K10.out 4).trans (show _ = some (.slice none 0 0) from rfl); have hg4 := blk_frozen K10.out 4; have hy5 := (blk_cell K10.out 5).trans (show _ = some (.slice none 0 0) from rfl); have hg5 := blk_frozen K10.out 5)))
  have HQ2 := Aside0.mk (R_puts (by decide) [(0, .int .i64 (la.length : Int)), (1, .int .i64 (lb.length : Int)), (2, .int .i64 (ls.length : Int)), (3, .int .i64 ((la.length : Int) + (lb.length : Int) - 2 * (ls.length : Int))), (4, .slice Al ls.length cl), (5, .slice As ns cs)] HQ.out K10.out)
  have HB2 := Aside0.mk (below_puts (Nat.le_of_lt HL.out) [(0, .int .i64 (la.length : Int)), (1, .int .i64 (lb.length : Int)), (2, .int .i64 (ls.length : Int)), (3, .int .i64 ((la.length : Int) + (lb.length : Int) - 2 * (ls.length : Int))), (4, .slice Al ls.length cl), (5, .slice As ns cs)] HB.out)
  refine bodyPost_ret (v := .tuple #[.agg #[.int .i64 (la.length : Int), .int .i64 (lb.length : Int), .int .i64 (ls.length : Int), .int .i64 ((la.length : Int) + (lb.length : Int) - 2 * (ls.length : Int)), .slice Al ls.length cl, .slice As ns cs], .int .i64 0]) (by simp [results, Tryz.results16, go_sem, hy0, hy1, hy2, hy3, hy4, hy5, hg0, hg1, hg2, hg3, hg4, hg5]) rfl ⟨Al, As, cl, cs, ns, ls, rfl, HIL.out, HG.out, HLQ.out, HQ2.out, HB2.out⟩
end Go.Proofs.YtdiojfaenfggkaaGreat.PTopNear
namespace Go.Proofs.YtdiojfaenfggkaaGreat.PTopNear
open Go.RowKit Go.Proofs.YtdiojfaenfggkaaGreatW.PrintWords Go.Proofs.YtdiojfaenfggkaaGreatW.PrintLast Go.Proofs.YtdiojfaenfggkaaGreatW.PrintMore
attribute [local go_sem] max2_int min2_int max_two min_two max_three min_three max_four min_four
set_option linter.unusedVariables false
set_option linter.unusedSimpArgs false
theorem TextIn.of {w : World} {A : Option Addr} {c : Nat} {l : List Int} (h : Kd.C (Kd.int .u8) w A l.length l) (hc : l.length ≤ c) (hu : u8s l) (hn : l.length ≤ 24) : TextIn w A c l :=
  ⟨⟨_, Kd.V_mk hc (Kd.C_F (Kd.heap_int _) h)⟩, hu, hn⟩
theorem textIn_lit {w : World} {g : Nat} {cs : Array Value} {l : List Int} {fz : Nat × Nat} (hg : w.heap[g]? = some (.cells cs 5 fz)) (hs : cs = (l.map (Value.int .u8)).toArray) (hu : u8s l) (hn : l.length ≤ 24) : TextIn w (some ⟨g, 0, none⟩) l.length l := by
  refine TextIn.of (Kd.C_of_reads (d := (0 : Int)) (h1 := fun _ => rfl) ⟨rfl, by omega, fun _ => ⟨_, rfl, fun i hi => ?_⟩⟩) (Nat.le_refl _) hu hn
  rw [add_plain]
  refine (cell_of_row w g i cs 5 fz hg).trans ?_
  rw [hs]
  simp [List.getD_eq_getElem?_getD, hi]
theorem conv_ab (w : World) : (convert 22 22 (.slice (some ⟨w.heap.size, 0, none⟩) 2 2)).run Tryz.prog (w.alloc (.cells #[.int .u8 97, .int .u8 98] 5)) = .ok (.slice (some ⟨w.heap.size, 0, none⟩) 2 2) (w.alloc (.cells #[.int .u8 97, .int .u8 98] 5 (2, 3))) :=
  Lib.run_convert_bytes_const w 22 5 #[.int .u8 97, .int .u8 98] 2 2 Tryz.underlying22 Tryz.underlying5
theorem conv_b (w : World) : (convert 22 22 (.slice (some ⟨w.heap.size + 1, 0, none⟩) 1 1)).run Tryz.prog ((w.alloc (.cells #[.int .u8 97, .int .u8 98] 5 (2, 3))).alloc (.cells #[.int .u8 98] 5)) = .ok (.slice (some ⟨w.heap.size + 1, 0, none⟩) 1 1) ((w.alloc (.cells #[.int .u8 97, .int .u8 98] 5 (2, 3))).alloc (.cells #[.int .u8 98] 5 (1, 2))) := by
  have h := Lib.run_convert_bytes_const (P := Tryz.prog) (w.alloc (.cells #[.int .u8 97, .int .u8 98] 5 (2, 3))) 22 5 #[.int .u8 98] 1 1 Tryz.underlying22 Tryz.underlying5
  rw [alloc_sz] at h
  exact h
theorem lits_in (w : World) : TextIn ((w.alloc (.cells #[.int .u8 97, .int .u8 98] 5 (2, 3))).alloc (.cells #[.int .u8 98] 5 (1, 2))) (some ⟨w.heap.size, 0, none⟩) 2 [97, 98] ∧ TextIn ((w.alloc (.cells #[.int .u8 97, .int .u8 98] 5 (2, 3))).alloc (.cells #[.int .u8 98] 5 (1, 2))) (some ⟨w.heap.size + 1, 0, none⟩) 1 [98] := by
  obtain ⟨h1, h2⟩ := alloc2 w (.cells #[.int .u8 97, .int .u8 98] 5 (2, 3)) (.cells #[.int .u8 98] 5 (1, 2))
  exact ⟨textIn_lit (l := [97, 98]) h1 rfl (fun x h => by simp at h; omega) (by decide), textIn_lit (l := [98]) h2 rfl (fun x h => by simp at h; omega) (by decide)⟩
theorem ab_x : xsOf (cutsOf false [97, 98]) (cutsOf false [98]) = [0, 1] := by kernel_rfl
theorem ab_y : ysOf (cutsOf false [97, 98]) (cutsOf false [98]) = [1] := by kernel_rfl
theorem ab_lcs : lcs [0, 1] [1] = 1 := by kernel_rfl
theorem ab_pairs {ls : List (Nat × Nat)} (h : GoodN [0, 1] [1] ls) (hl : ls.length = lcs [0, 1] [1]) : ls = [(1, 0)] := by
  rw [ab_lcs] at hl
  match ls, hl with
  | [(i, j)], _ =>
    obtain ⟨h1, h2, h3⟩ := h.at_ (i, j) (by simp)
    simp only [List.length_cons, List.length_nil] at h1 h2 h3
    have hj : j = 0 := by omega
    subst hj
    rcases (show i = 0 ∨ i = 1 by omega) with rfl | rfl
    · exact absurd h3 (by decide)
    · rfl
theorem ab_diff (W : World) (A0 A1 : Option Addr) (c0 c1 : Nat) (h0 : TextIn W A0 c0 [97, 98]) (h1 : TextIn W A1 c1 [98]) :
    Calls Tryz.prog 16 #[.int .i64 0, .int .i64 0, .slice A0 2 c0, .slice A1 1 c1, .agg #[.int .i64 1000, .int .i64 1099511627776]] W fun e w' => ∃ Al As cl cs ns, e = .returned (.tuple #[.agg #[.int .i64 2, .int .i64 1, .int .i64 1, .int .i64 1, .slice Al 1 cl, .slice As ns cs], .int .i64 0]) ∧ Kd.R k54 54 w' 0 (fun _ => True) (.slice Al 1 cl) [⟨1, 0⟩] ∧ Below W.heap.size W w' := by
  obtain ⟨la, lb, x, y, u, v, hC⟩ := cutIs false [97, 98] [98] (by decide) (by decide)
  refine (show Calls Tryz.prog 16 #[.int .i64 0, .int .i64 0, .slice A0 2 c0, .slice A1 1 c1, .agg #[.int .i64 1000, .int .i64 1099511627776]] W _ from port_Diff.of hC W h0 h1).mono ?_
  rintro e w' ⟨Al, As, cl, cs, ns, ls, rfl, _, hg, hl, hr, hb⟩
  have ea := hC.ea
  have eb := hC.eb
  have ex := hC.ex
  have ey := hC.ey
  subst ea eb
  rw [ab_x] at ex
  rw [ab_y] at ey
  subst ex ey
  obtain rfl := ab_pairs hg hl
  exact ⟨Al, As, cl, cs, ns, rfl, hr, hb⟩
theorem ab_near (W : World) (A0 A1 : Option Addr) (c0 c1 : Nat) (h0 : TextIn W A0 c0 [97, 98]) (h1 : TextIn W A1 c1 [98]) :
    Calls Tryz.prog 20 #[.int .i64 0, .slice A0 2 c0, .slice A1 1 c1, .int .i64 1] W fun e w' => e = .returned (.tuple #[.int .i64 1, .int .i64 0]) ∧ Below W.heap.size W w' := by
  obtain ⟨la, lb, x, y, u, v, hC⟩ := cutIs false [97, 98] [98] (by decide) (by decide)
  have h := port_Near.of hC W h0 h1 1 (by decide) (by decide)
  have hd : dist u v = 1 := by
    have ea := hC.ea
    have eb := hC.eb
    have ex := hC.ex
    have ey := hC.ey
    have eu := hC.eu
    have ev := hC.ev
    subst ea eb
    rw [ab_x] at ex
    rw [ab_y] at ey
    subst ex ey eu ev
    rw [mid_dist]
    have := dist_add [0, 1] [1]
    rw [ab_lcs] at this
    simp only [List.length_cons, List.length_nil] at this
    omega
  rw [hd, if_pos (by decide), if_pos (by decide)] at h
  exact h
set_option maxHeartbeats 8000000 in
set_option maxRecDepth 100000 in
theorem top_awake.calls (w : World) : Calls Tryz.prog 8 #[] w fun e w' => e = .returned (.bool true) ∧ Below w.heap.size w w' := by
  have HW := Aside0.mk (fun W => tattingtop_wide.calls 1000 1099511627776 W rfl)
  have q1 := conv_ab w
  have q2 := conv_b w
  obtain ⟨i1, i2⟩ := lits_in w
  have I1 := Aside0.mk i1
  have I2 := Aside0.mk i2
  clear i1 i2
  have HB := Aside0.mk (below_alloc (below_alloc (Below.refl w.heap.size w) (.cells #[.int .u8 97, .int .u8 98] 5 (2, 3))) (.cells #[.int .u8 98] 5 (1, 2)))
  go_enter Tryz.func8, Tryz.ntmps8
  go_upto_region 2 with (first
    | (go_at_call 13; ((with_reducible refine (HW.out _).mono ?_); rintro e w2 ⟨rfl, hbl⟩; have n1_ := Aside0.mk (I1.out.below hbl); have n2_ := Aside0.mk (I2.out.below hbl); have n3_ := Aside0.mk (below_step HB.out hbl); clear I1 I2 HB hbl q1 q2; have I1 := n1_; have I2 := n2_; have HB := n3_; clear n1_ n2_ n3_))
    | (go_at_call 16; ((with_reducible refine (ab_diff _ _ _ _ _ I1.out I2.out).mono ?_); rintro e w3 ⟨Al, As, cl, cs, ns, rfl, hr, hbl⟩; have HR := Aside0.mk hr; have n3_ := Aside0.mk (below_step HB.out hbl); clear I1 I2 HB hbl hr; have HB := n3_; clear n3_)))
  have hbl := below_alloc (Below.refl w3.heap.size w3) (Obj.cells #[.int .i64 2, .int .i64 1, .int .i64 1, .int .i64 1, .slice Al 1 cl, .slice As ns cs] 35)
  have K1 := Aside0.mk (alloc_at w3 (Obj.cells #[.int .i64 2, .int .i64 1, .int .i64 1, .int .i64 1, .slice Al 1 cl, .slice As ns cs] 35))
  have n3_ := Aside0.mk (below_step HB.out hbl)
  have n4_ := Aside0.mk (Kd.R_below HR.out hbl)
  clear HB HR hbl
  generalize w3.alloc (Obj.cells #[.int .i64 2, .int .i64 1, .int .i64 1, .int .i64 1, .slice Al 1 cl, .slice As ns cs] 35) = w4 at K1 n3_ n4_ ⊢
  generalize w3.heap.size = g1 at K1 ⊢
  have q1 := conv_ab w4
  have q2 := conv_b w4
  obtain ⟨i1, i2⟩ := lits_in w4
  have I1 := Aside0.mk i1
  have I2 := Aside0.mk i2
  clear i1 i2
  have HB := Aside0.mk (below_alloc (below_alloc (Below.refl w4.heap.size w4) (.cells #[.int .u8 97, .int .u8 98] 5 (2, 3))) (.cells #[.int .u8 98] 5 (1, 2)))
  go_upto_region 3 with (go_at_call 20; ((with_reducible refine (ab_near _ _ _ _ _ I1.out I2.out).mono ?_); rintro e w5 ⟨rfl, hbl⟩; have n1_ := below_step HB.out hbl; have HR := Aside0.mk (Kd.R_below n4_.out n1_); have K2 := Aside0.mk (blk_below K1.out n1_); have HB2 := Aside0.mk (below_step n3_.out n1_); clear n1_ I1 I2 HB hbl q1 q2 n3_ n4_ K1))
  have hz2 := (blk_cell K2.out 2).trans (show _ = some (.int .i64 1) from rfl)
  have hz3 := (blk_cell K2.out 3).trans (show _ = some (.int .i64 1) from rfl)
  have hz4 := (blk_cell K2.out 4).trans (show _ = some (.slice Al 1 cl) from rfl)
  obtain ⟨ad, rfl, hx, hy⟩ := at_T54 (Kd.R_reads' HR.out).2.2 0 (by decide) (by decide)
  have hx : w5.cell? (ad.add 0) = some (.int .i64 1) := hx
  have hx' : w5.cell? ad = some (.int .i64 1) := hx
  go_wp2_with fail
  go_ret
  exact ⟨rfl, HB2.out⟩
end Go.Proofs.YtdiojfaenfggkaaGreat.PTopNear
namespace Go.Proofs.YtdiojfaenfggkaaGreat.PTopNear
open Go.RowKit Go.Proofs.YtdiojfaenfggkaaGreatW.PrintWords Go.Proofs.YtdiojfaenfggkaaGreatW.PrintLast Go.Proofs.YtdiojfaenfggkaaGreatW.PrintMore
attribute [local go_sem] max2_int min2_int max_two min_two max_three min_three max_four min_four
set_option linter.unusedVariables false
set_option linter.unusedSimpArgs false
theorem countP_lt_of {α : Type} {p q : α → Bool} : ∀ {l : List α}, (∀ x, p x = true → q x = true) → (∃ x, x ∈ l ∧ p x = false ∧ q x = true) → l.countP p < l.countP q
  | [], _, ⟨x, hx, _⟩ => by cases hx
  | a :: l, h, ⟨x, hx, h1, h2⟩ => by
    have hle : l.countP p ≤ l.countP q := List.countP_mono_left (fun x _ => h x)
    rw [List.countP_cons, List.countP_cons]
    rcases List.mem_cons.1 hx with rfl | hx
    · rw [if_neg (by simp [h1]), if_pos h2]; omega
    · have := countP_lt_of h ⟨x, hx, h1, h2⟩
      by_cases ha : p a = true
      · rw [if_pos ha, if_pos (h a ha)]; omega
      · rw [if_neg ha]; split <;> omega
theorem rkT_lt {l : List (List Int)} {s t : List Int} (hs : s ∈ l) (h : Lib.compareBytes (Lib.bytesOf s) (Lib.bytesOf t) < 0) : rkT l s < rkT l t := by
  unfold rkT
  refine countP_lt_of (fun x hx => ?_) ⟨Lib.bytesOf s, ?_, ?_, ?_⟩
  · exact decide_eq_true (cmpL_trans _ _ _ (of_decide_eq_true hx) h)
  · rw [dedB_mem]; exact List.mem_map.2 ⟨s, hs, rfl⟩
  · have := (cmpL_zero (Lib.bytesOf s) (Lib.bytesOf s)).2 rfl
    exact decide_eq_false (by omega)
  · exact decide_eq_true h
theorem rkT_eq {l : List (List Int)} {s t : List Int} (hs : s ∈ l) (ht : t ∈ l) : rkT l s = rkT l t ↔ Lib.bytesOf s = Lib.bytesOf t := by
  constructor
  · intro h
    rw [← cmpL_zero]
    have h1 := cmpL_swap (Lib.bytesOf s) (Lib.bytesOf t)
    rcases Int.lt_trichotomy (Lib.compareBytes (Lib.bytesOf s) (Lib.bytesOf t)) 0 with h2 | h2 | h2
    · have := rkT_lt hs h2; omega
    · exact h2
    · have := rkT_lt (s := t) (t := s) ht (by omega); omega
  · intro h
    unfold rkT
    rw [h]
theorem lcs_map_congr (f g : List Int → Int) : ∀ (la lb : List (List Int)), (∀ s, s ∈ la → ∀ t, t ∈ lb → (f s = f t ↔ g s = g t)) → lcs (la.map f) (lb.map f) = lcs (la.map g) (lb.map g)
  | [], lb, _ => by simp
  | a :: la, [], _ => by simp
  | a :: la, b :: lb, h => by
    have h1 := lcs_map_congr f g la lb (fun s hs t ht => h s (List.mem_cons_of_mem _ hs) t (List.mem_cons_of_mem _ ht))
    have h2 := lcs_map_congr f g la (b :: lb) (fun s hs t ht => h s (List.mem_cons_of_mem _ hs) t ht)
    have h3 := lcs_map_congr f g (a :: la) lb (fun s hs t ht => h s hs t (List.mem_cons_of_mem _ ht))
    have h4 := h a (List.mem_cons_self ..) b (List.mem_cons_self ..)
    simp only [List.map_cons] at h1 h2 h3 ⊢
    rw [lcs_cons, lcs_cons, h1, h2, h3]
    by_cases e : f a = f b
    · rw [if_pos e, if_pos (h4.1 e)]
    · rw [if_neg e, if_neg (fun e' => e (h4.2 e'))]
termination_by la lb => la.length + lb.length
theorem dist_map_congr (f g : List Int → Int) (la lb : List (List Int)) (h : ∀ s, s ∈ la → ∀ t, t ∈ lb → (f s = f t ↔ g s = g t)) : dist (la.map f) (lb.map f) = dist (la.map g) (lb.map g) := by
  have h1 := dist_add (la.map f) (lb.map f)
  have h2 := dist_add (la.map g) (lb.map g)
  have h3 := lcs_map_congr f g la lb h
  simp only [List.length_map] at h1 h2
  omega
def tokD (la lb : List (List Int)) : Nat := dist (xsOf la lb) (ysOf la lb)
theorem tokD_num (la lb L : List (List Int)) (ha : ∀ s, s ∈ la → s ∈ L) (hb : ∀ s, s ∈ lb → s ∈ L) : tokD la lb = dist (la.map fun t => (rkT L t : Int)) (lb.map fun t => (rkT L t : Int)) := by
  unfold tokD xsOf ysOf
  refine dist_map_congr _ _ la lb (fun s hs t ht => ?_)
  have h1 := rkT_eq (List.mem_append_left lb hs) (List.mem_append_right la ht)
  have h2 := rkT_eq (ha s hs) (hb t ht)
  simp only [Int.natCast_inj]
  rw [h1, h2]
theorem tokD_comm (la lb : List (List Int)) : tokD la lb = tokD lb la := by
  rw [tokD_num lb la (la ++ lb) (fun s h => List.mem_append_right _ h) (fun s h => List.mem_append_left _ h), dist_comm]
  rfl
theorem tokD_tri (la lb lc : List (List Int)) : tokD la lb ≤ tokD la lc + tokD lc lb := by
  rw [tokD_num la lb (la ++ lb ++ lc) (fun s h => List.mem_append_left _ (List.mem_append_left _ h)) (fun s h => List.mem_append_left _ (List.mem_append_right _ h)),
    tokD_num la lc (la ++ lb ++ lc) (fun s h => List.mem_append_left _ (List.mem_append_left _ h)) (fun s h => List.mem_append_right _ h),
    tokD_num lc lb (la ++ lb ++ lc) (fun s h => List.mem_append_right _ h) (fun s h => List.mem_append_left _ (List.mem_append_right _ h))]
  exact dist_triangle _ _ _
theorem tokD_le (la lb : List (List Int)) : tokD la lb ≤ la.length + lb.length := by
  have := dist_add (xsOf la lb) (ysOf la lb)
  unfold tokD
  simp only [xsOf, ysOf, List.length_map] at this ⊢
  omega
theorem CutIs.dist {m : Bool} {l0 l1 : List Int} {la lb : List (List Int)} {x y u v : List Int} (h : CutIs m l0 l1 la lb x y u v) : dist u v = tokD (cutsOf m l0) (cutsOf m l1) := by
  have ea := h.ea
  have eb := h.eb
  have ex := h.ex
  have ey := h.ey
  have eu := h.eu
  have ev := h.ev
  subst ea eb ex ey eu ev
  rw [mid_dist]
  rfl
def nearR (d : Nat) (k : Int) : Int := if 0 ≤ k ∧ (d : Int) ≤ k then d else 0
def nearE (d : Nat) (k : Int) : Int := if k < 0 then 1 else if (d : Int) ≤ k then 0 else 3
theorem port_Near.tok (m : Bool) {A0 A1 : Option Addr} {c0 c1 : Nat} {l0 l1 : List Int} (w : World) (h0 : TextIn w A0 c0 l0) (h1 : TextIn w A1 c1 l1) (k : Int) (hk : k < 9223372036854775808) :
    Calls Tryz.prog 20 #[.int .i64 (modeOf m), .slice A0 l0.length c0, .slice A1 l1.length c1, .int .i64 k] w fun e w' => e = .returned (.tuple #[.int .i64 (nearR (tokD (cutsOf m l0) (cutsOf m l1)) k), .int .i64 (nearE (tokD (cutsOf m l0) (cutsOf m l1)) k)]) ∧ Below w.heap.size w w' := by
  unfold nearR nearE
  by_cases hk0 : k < 0
  · rw [if_neg (by omega), if_pos hk0]
    exact port_Near.neg _ (.bool true) (.bool true) k hk0 w A0 A1 _ _ c0 c1
  · obtain ⟨la, lb, x, y, u, v, hC⟩ := cutIs m l0 l1 h0.n h1.n
    have h := port_Near.of hC w h0 h1 k (by omega) hk
    rw [hC.dist] at h
    rw [if_neg hk0]
    by_cases hd : ((tokD (cutsOf m l0) (cutsOf m l1) : Nat) : Int) ≤ k
    · rw [if_pos hd, if_pos hd] at h
      rw [if_pos ⟨by omega, hd⟩, if_pos hd]
      exact h
    · rw [if_neg hd, if_neg hd] at h
      rw [if_neg (fun h => hd h.2), if_neg hd]
      exact h
theorem port_Diff.tok (m : Bool) {A0 A1 : Option Addr} {c0 c1 : Nat} {l0 l1 : List Int} (w : World) (h0 : TextIn w A0 c0 l0) (h1 : TextIn w A1 c1 l1) :
    Calls Tryz.prog 16 #[.int .i64 (modeOf m), .int .i64 0, .slice A0 l0.length c0, .slice A1 l1.length c1, .agg #[.int .i64 1000, .int .i64 1099511627776]] w fun e w' => ∃ Al As cl cs ns, ∃ N M L P : Nat, e = .returned (.tuple #[.agg #[.int .i64 N, .int .i64 M, .int .i64 L, .int .i64 (tokD (cutsOf m l0) (cutsOf m l1) : Nat), .slice Al P cl, .slice As ns cs], .int .i64 0]) ∧ Below w.heap.size w w' := by
  obtain ⟨la, lb, x, y, u, v, hC⟩ := cutIs m l0 l1 h0.n h1.n
  refine (port_Diff.of hC w h0 h1).mono ?_
  rintro e w' ⟨Al, As, cl, cs, ns, ls, rfl, _, _, hl, _, hb⟩
  have hd := hC.dist
  have he : ((la.length : Int) + (lb.length : Int) - 2 * (ls.length : Int)) = ((tokD (cutsOf m l0) (cutsOf m l1) : Nat) : Int) := by
    rw [← hd]
    have eu := hC.eu
    have ev := hC.ev
    have nx := hC.nx
    have ny := hC.ny
    subst eu ev
    rw [mid_dist]
    have := dist_add x y
    omega
  rw [he]
  exact ⟨Al, As, cl, cs, ns, la.length, lb.length, ls.length, ls.length, rfl, hb⟩
end Go.Proofs.YtdiojfaenfggkaaGreat.PTopNear
namespace Go.Proofs.YtdiojfaenfggkaaGreat.PTopNear
open Go.RowKit Go.Proofs.YtdiojfaenfggkaaGreatW.PrintWords Go.Proofs.YtdiojfaenfggkaaGreatW.PrintLast Go.Proofs.YtdiojfaenfggkaaGreatW.PrintMore
attribute [local go_sem] max2_int min2_int max_two min_two max_three min_three max_four min_four
set_option linter.unusedVariables false
set_option linter.unusedSimpArgs false
set_option maxHeartbeats 16000000 in
set_option maxRecDepth 100000 in
theorem top_near.small (m : Bool) (A0 A1 A2 : Option Addr) (c0 c1 c2 : Nat) (l0 l1 l2 : List Int) (k : Int) (w : World) (h0 : TextIn w A0 c0 l0) (h1 : TextIn w A1 c1 l1) (h2 : TextIn w A2 c2 l2) (n0 : l0.length ≤ 20) (n1 : l1.length ≤ 20) (n2 : l2.length ≤ 20) (hk' : k < 9223372036854775808) :
    Calls Tryz.prog 5 #[.bool m, .slice A0 l0.length c0, .slice A1 l1.length c1, .slice A2 l2.length c2, .int .i64 k] w fun e w' => e = .returned (.bool true) ∧ Below w.heap.size w w' := by
  have D0 := tokD_le (cutsOf m l0) (cutsOf m l1)
  have D1 := tokD_le (cutsOf m l0) (cutsOf m l2)
  have D2 := tokD_le (cutsOf m l2) (cutsOf m l1)
  have D3 := tokD_tri (cutsOf m l0) (cutsOf m l1) (cutsOf m l2)
  have q0 := cutsOf_length m l0
  have q1 := cutsOf_length m l1
  have q2 := cutsOf_length m l2
  have HA := Aside0.mk top_awake.calls
  have HW := Aside0.mk (fun W => tattingtop_wide.calls 1000 1099511627776 W rfl)
  have HD := Aside0.mk (fun W (hb : Below w.heap.size w W) => port_Diff.tok m W (h0.below hb) (h1.below hb))
  have HN0 := Aside0.mk (fun W (hb : Below w.heap.size w W) => port_Near.tok m W (h0.below hb) (h1.below hb) k hk')
  have HN1 := Aside0.mk (fun W (hb : Below w.heap.size w W) => port_Near.tok m W (h1.below hb) (h0.below hb) (tokD (cutsOf m l0) (cutsOf m l1) : Nat) (by omega))
  have HN2 := Aside0.mk (fun W (hb : Below w.heap.size w W) => port_Near.tok m W (h0.below hb) (h2.below hb) 100 (by decide))
  have HN3 := Aside0.mk (fun W (hb : Below w.heap.size w W) => port_Near.tok m W (h2.below hb) (h1.below hb) 100 (by decide))
  have HN4 := Aside0.mk (fun W (hb : Below w.heap.size w W) => port_Near.tok m W (h0.below hb) (h1.below hb) (((tokD (cutsOf m l0) (cutsOf m l1) : Nat) : Int) - 1) (by omega))
  rw [← tokD_comm (cutsOf m l0) (cutsOf m l1)] at HN1
  generalize tokD (cutsOf m l0) (cutsOf m l1) = d at *
  generalize tokD (cutsOf m l0) (cutsOf m l2) = d1 at *
  generalize tokD (cutsOf m l2) (cutsOf m l1) = d2 at *
  have e1 : nearR d (d : Int) = d ∧ nearE d (d : Int) = 0 := by unfold nearR nearE; rw [if_pos ⟨by omega, by omega⟩, if_neg (by omega), if_pos (by omega)]; exact ⟨rfl, rfl⟩
  have e2 : nearR d1 100 = d1 ∧ nearE d1 100 = 0 := by unfold nearR nearE; rw [if_pos ⟨by omega, by omega⟩, if_neg (by omega), if_pos (by omega)]; exact ⟨rfl, rfl⟩
  have e3 : nearR d2 100 = d2 ∧ nearE d2 100 = 0 := by unfold nearR nearE; rw [if_pos ⟨by omega, by omega⟩, if_neg (by omega), if_pos (by omega)]; exact ⟨rfl, rfl⟩
  rw [e1.1, e1.2] at HN1
  rw [e2.1, e2.2] at HN2
  rw [e3.1, e3.2] at HN3
  have e4 : (d = 0) ∨ (0 < d ∧ nearE d ((d : Int) - 1) = 3) := by
    rcases Nat.eq_zero_or_pos d with h | h
    · exact .inl h
    · right
      unfold nearE
      rw [if_neg (by omega), if_neg (by omega)]
      exact ⟨h, rfl⟩
  have e5 : (k < 0 ∧ nearE d k = 1 ∧ nearR d k = 0) ∨ (0 ≤ k ∧ k < d ∧ nearE d k = 3 ∧ nearR d k = 0) ∨ (0 ≤ k ∧ (d : Int) ≤ k ∧ nearE d k = 0 ∧ nearR d k = d) := by
    unfold nearR nearE
    by_cases h : k < 0
    · left; rw [if_pos h, if_neg (by omega)]; exact ⟨h, rfl, rfl⟩
    · by_cases h' : (d : Int) ≤ k
      · right; right; rw [if_neg h, if_pos h', if_pos ⟨by omega, h'⟩]; exact ⟨by omega, h', rfl, rfl⟩
      · right; left; rw [if_neg h, if_neg h', if_neg (by omega)]; exact ⟨by omega, by omega, rfl, rfl⟩
  generalize nearR d k = R at *
  generalize nearE d k = E at *
  generalize nearR d ((d : Int) - 1) = R4 at *
  generalize nearE d ((d : Int) - 1) = E4 at *
  have t0 : decide ((20 : Int) < (l0.length : Int)) = false := decide_eq_false (by omega)
  have t1 : decide ((20 : Int) < (l1.length : Int)) = false := decide_eq_false (by omega)
  have t2 : decide ((20 : Int) < (l2.length : Int)) = false := decide_eq_false (by omega)
  have t0' : decide (20 < l0.length) = false := decide_eq_false (by omega)
  have t1' : decide (20 < l1.length) = false := decide_eq_false (by omega)
  have t2' : decide (20 < l2.length) = false := decide_eq_false (by omega)
  have hw1 : IntKind.i64.wrap ((d : Int) - 1) = (d : Int) - 1 := by rw [IntWalk.i64_in _ (by omega)]
  have hw2 : IntKind.i64.wrap ((d1 : Int) + (d2 : Int)) = (d1 : Int) + (d2 : Int) := by rw [IntWalk.i64_in _ (by omega)]
  have t3 : decide ((d1 : Int) + (d2 : Int) < (d : Int)) = false := decide_eq_false (by omega)
  have t3' : decide (d1 + d2 < d) = false := decide_eq_false (by omega)
  clear h0 h1 h2 n0 n1 n2 D0 D1 D2 D3 q0 q1 q2 e1 e2 e3 hk'
  cases m with
  | false =>
    rw [show modeOf false = 0 from rfl] at HD HN0 HN1 HN2 HN3 HN4
    go_enter Tryz.func5, Tryz.ntmps5
    go_upto_region 9 with (first
      | (go_at_call 8; ((with_reducible refine (HA.out _).mono ?_); rintro e w1 ⟨rfl, hbl⟩; have HB := Aside0.mk hbl; clear hbl))
      | (go_at_call 13; ((with_reducible refine (HW.out _).mono ?_); rintro e w2 ⟨rfl, hbl⟩; have n_ := Aside0.mk (below_step HB.out hbl); clear HB hbl; have HB := n_; clear n_))
      | (go_at_call 16; ((with_reducible refine (HD.out _ HB.out).mono ?_); rintro e w3 ⟨Al, As, cl, cs, ns, N, M, L, P, rfl, hbl⟩; have n_ := Aside0.mk (below_step HB.out hbl); clear HB hbl; have HB := n_; clear n_)))
    have hbl := below_alloc (Below.refl w3.heap.size w3) (Obj.cells #[.int .i64 N, .int .i64 M, .int .i64 L, .int .i64 (d : Int), .slice Al P cl, .slice As ns cs] 35)
    have K1 := Aside0.mk (alloc_at w3 (Obj.cells #[.int .i64 N, .int .i64 M, .int .i64 L, .int .i64 (d : Int), .slice Al P cl, .slice As ns cs] 35))
    have n_ := Aside0.mk (below_step HB.out hbl)
    clear HB hbl HA HW HD
    have HB := n_
    clear n_
    generalize w3.alloc (Obj.cells #[.int .i64 N, .int .i64 M, .int .i64 L, .int .i64 (d : Int), .slice Al P cl, .slice As ns cs] 35) = w4 at K1 HB ⊢
    generalize w3.heap.size = g1 at K1 ⊢
    have hz3 := (blk_cell K1.out 3).trans (show _ = some (.int .i64 (d : Int)) from rfl)
    go_upto_region 14 with (first
      | (go_at_call 20; ((with_reducible refine (HN0.out _ HB.out).mono ?_); rintro e w5 ⟨rfl, hbl⟩; have n_ := Aside0.mk (below_step HB.out hbl); have nk_ := Aside0.mk (blk_below K1.out hbl); clear HB K1 hz3 hbl; have HB := n_; have K1 := nk_; clear n_ nk_; have hz3 := (blk_cell K1.out 3).trans (show _ = some (.int .i64 (d : Int)) from rfl); clear HN0))
      | (go_at_call 20; ((with_reducible refine (HN1.out _ HB.out).mono ?_); rintro e w6 ⟨rfl, hbl⟩; have n_ := Aside0.mk (below_step HB.out hbl); have nk_ := Aside0.mk (blk_below K1.out hbl); clear HB K1 hz3 hbl; have HB := n_; have K1 := nk_; clear n_ nk_; have hz3 := (blk_cell K1.out 3).trans (show _ = some (.int .i64 (d : Int)) from rfl); clear HN1))
      | (go_at_call 20; ((with_reducible refine (HN2.out _ HB.out).mono ?_); rintro e w7 ⟨rfl, hbl⟩; have n_ := Aside0.mk (below_step HB.out hbl); have nk_ := Aside0.mk (blk_below K1.out hbl); clear HB K1 hz3 hbl; have HB := n_; have K1 := nk_; clear n_ nk_; have hz3 := (blk_cell K1.out 3).trans (show _ = some (.int .i64 (d : Int)) from rfl); clear HN2))
      | (go_at_call 20; ((with_reducible refine (HN3.out _ HB.out).mono ?_); rintro e w8 ⟨rfl, hbl⟩; have n_ := Aside0.mk (below_step HB.out hbl); have nk_ := Aside0.mk (blk_below K1.out hbl); clear HB K1 hz3 hbl; have HB := n_; have K1 := nk_; clear n_ nk_; have hz3 := (blk_cell K1.out 3).trans (show _ = some (.int .i64 (d : Int)) from rfl); clear HN3))
      | (go_at_call 20; ((with_reducible refine (HN4.out _ HB.out).mono ?_); rintro e w9 ⟨rfl, hbl⟩; have n_ := Aside0.mk (below_step HB.out hbl); have nk_ := Aside0.mk (blk_below K1.out hbl); clear HB K1 hz3 hbl; have HB := n_; have K1 := nk_; clear n_ nk_; have hz3 := (blk_cell K1.out 3).trans (show _ = some (.int .i64 (d : Int)) from rfl); clear HN4)))
    rcases e4 with rfl | ⟨p4, rfl⟩
    · rcases e5 with ⟨p5, rfl, rfl⟩ | ⟨p5, p6, _, _⟩ | ⟨p5, p6, rfl, rfl⟩
      · have s1 : decide (k < 0) = true := decide_eq_true p5
        clear p5
        go_wp2_with fail
        go_ret
        exact ⟨rfl, HB.out⟩
      · exact absurd p6 (by omega)
      · have s1 : decide (k < 0) = false := decide_eq_false (by omega)
        clear p5 p6
        go_wp2_with fail
        go_ret
        exact ⟨rfl, HB.out⟩
    · have s0 : decide ((0 : Int) < (d : Int)) = true := decide_eq_true (by omega)
      have s0' : decide (0 < d) = true := decide_eq_true p4
      clear p4
      rcases e5 with ⟨p5, rfl, rfl⟩ | ⟨p5, p6, rfl, rfl⟩ | ⟨p5, p6, rfl, rfl⟩
      · have s1 : decide (k < 0) = true := decide_eq_true p5
        clear p5
        go_wp2_with fail
        go_ret
        exact ⟨rfl, HB.out⟩
      · have s1 : decide (k < 0) = false := decide_eq_false (by omega)
        have s2 : decide (k < (d : Int)) = true := decide_eq_true p6
        clear p5 p6
        go_wp2_with fail
        go_ret
        exact ⟨rfl, HB.out⟩
      · have s1 : decide (k < 0) = false := decide_eq_false (by omega)
        have s2 : decide (k < (d : Int)) = false := decide_eq_false (by omega)
        clear p5 p6
        go_wp2_with fail
        go_ret
        exact ⟨rfl, HB.out⟩
  | true =>
    rw [show modeOf true = 1 from rfl] at HD HN0 HN1 HN2 HN3 HN4
    go_enter Tryz.func5, Tryz.ntmps5
    go_upto_region 9 with (first
      | (go_at_call 8; ((with_reducible refine (HA.out _).mono ?_); rintro e w1 ⟨rfl, hbl⟩; have HB := Aside0.mk hbl; clear hbl))
      | (go_at_call 13; ((with_reducible refine (HW.out _).mono ?_); rintro e w2 ⟨rfl, hbl⟩; have n_ := Aside0.mk (below_step HB.out hbl); clear HB hbl; have HB := n_; clear n_))
      | (go_at_call 16; ((with_reducible refine (HD.out _ HB.out).mono ?_); rintro e w3 ⟨Al, As, cl, cs, ns, N, M, L, P, rfl, hbl⟩; have n_ := Aside0.mk (below_step HB.out hbl); clear HB hbl; have HB := n_; clear n_)))
    have hbl := below_alloc (Below.refl w3.heap.size w3) (Obj.cells #[.int .i64 N, .int .i64 M, .int .i64 L, .int .i64 (d : Int), .slice Al P cl, .slice As ns cs] 35)
    have K1 := Aside0.mk (alloc_at w3 (Obj.cells #[.int .i64 N, .int .i64 M, .int .i64 L, .int .i64 (d : Int), .slice Al P cl, .slice As ns cs] 35))
    have n_ := Aside0.mk (below_step HB.out hbl)
    clear HB hbl HA HW HD
    have HB := n_
    clear n_
    generalize w3.alloc (Obj.cells #[.int .i64 N, .int .i64 M, .int .i64 L, .int .i64 (d : Int), .slice Al P cl, .slice As ns cs] 35) = w4 at K1 HB ⊢
    generalize w3.heap.size = g1 at K1 ⊢
    have hz3 := (blk_cell K1.out 3).trans (show _ = some (.int .i64 (d : Int)) from rfl)
    go_upto_region 14 with (first
      | (go_at_call 20; ((with_reducible refine (HN0.out _ HB.out).mono ?_); rintro e w5 ⟨rfl, hbl⟩; have n_ := Aside0.mk (below_step HB.out hbl); have nk_ := Aside0.mk (blk_below K1.out hbl); clear HB K1 hz3 hbl; have HB := n_; have K1 := nk_; clear n_ nk_; have hz3 := (blk_cell K1.out 3).trans (show _ = some (.int .i64 (d : Int)) from rfl); clear HN0))
      | (go_at_call 20; ((with_reducible refine (HN1.out _ HB.out).mono ?_); rintro e w6 ⟨rfl, hbl⟩; have n_ := Aside0.mk (below_step HB.out hbl); have nk_ := Aside0.mk (blk_below K1.out hbl); clear HB K1 hz3 hbl; have HB := n_; have K1 := nk_; clear n_ nk_; have hz3 := (blk_cell K1.out 3).trans (show _ = some (.int .i64 (d : Int)) from rfl); clear HN1))
      | (go_at_call 20; ((with_reducible refine (HN2.out _ HB.out).mono ?_); rintro e w7 ⟨rfl, hbl⟩; have n_ := Aside0.mk (below_step HB.out hbl); have nk_ := Aside0.mk (blk_below K1.out hbl); clear HB K1 hz3 hbl; have HB := n_; have K1 := nk_; clear n_ nk_; have hz3 := (blk_cell K1.out 3).trans (show _ = some (.int .i64 (d : Int)) from rfl); clear HN2))
      | (go_at_call 20; ((with_reducible refine (HN3.out _ HB.out).mono ?_); rintro e w8 ⟨rfl, hbl⟩; have n_ := Aside0.mk (below_step HB.out hbl); have nk_ := Aside0.mk (blk_below K1.out hbl); clear HB K1 hz3 hbl; have HB := n_; have K1 := nk_; clear n_ nk_; have hz3 := (blk_cell K1.out 3).trans (show _ = some (.int .i64 (d : Int)) from rfl); clear HN3))
      | (go_at_call 20; ((with_reducible refine (HN4.out _ HB.out).mono ?_); rintro e w9 ⟨rfl, hbl⟩; have n_ := Aside0.mk (below_step HB.out hbl); have nk_ := Aside0.mk (blk_below K1.out hbl); clear HB K1 hz3 hbl; have HB := n_; have K1 := nk_; clear n_ nk_; have hz3 := (blk_cell K1.out 3).trans (show _ = some (.int .i64 (d : Int)) from rfl); clear HN4)))
    rcases e4 with rfl | ⟨p4, rfl⟩
    · rcases e5 with ⟨p5, rfl, rfl⟩ | ⟨p5, p6, _, _⟩ | ⟨p5, p6, rfl, rfl⟩
      · have s1 : decide (k < 0) = true := decide_eq_true p5
        clear p5
        go_wp2_with fail
        go_ret
        exact ⟨rfl, HB.out⟩
      · exact absurd p6 (by omega)
      · have s1 : decide (k < 0) = false := decide_eq_false (by omega)
        clear p5 p6
        go_wp2_with fail
        go_ret
        exact ⟨rfl, HB.out⟩
    · have s0 : decide ((0 : Int) < (d : Int)) = true := decide_eq_true (by omega)
      have s0' : decide (0 < d) = true := decide_eq_true p4
      clear p4
      rcases e5 with ⟨p5, rfl, rfl⟩ | ⟨p5, p6, rfl, rfl⟩ | ⟨p5, p6, rfl, rfl⟩
      · have s1 : decide (k < 0) = true := decide_eq_true p5
        clear p5
        go_wp2_with fail
        go_ret
        exact ⟨rfl, HB.out⟩
      · have s1 : decide (k < 0) = false := decide_eq_false (by omega)
        have s2 : decide (k < (d : Int)) = true := decide_eq_true p6
        clear p5 p6
        go_wp2_with fail
        go_ret
        exact ⟨rfl, HB.out⟩
      · have s1 : decide (k < 0) = false := decide_eq_false (by omega)
        have s2 : decide (k < (d : Int)) = false := decide_eq_false (by omega)
        clear p5 p6
        go_wp2_with fail
        go_ret
        exact ⟨rfl, HB.out⟩
end Go.Proofs.YtdiojfaenfggkaaGreat.PTopNear
namespace Go.Proofs.YtdiojfaenfggkaaGreat.PTopNear
open Go.RowKit Go.Proofs.YtdiojfaenfggkaaGreatW.PrintWords Go.Proofs.YtdiojfaenfggkaaGreatW.PrintLast Go.Proofs.YtdiojfaenfggkaaGreatW.PrintMore
attribute [local go_sem] max2_int min2_int max_two min_two max_three min_three max_four min_four
set_option linter.unusedVariables false
set_option linter.unusedSimpArgs false
set_option maxHeartbeats 8000000 in
set_option maxRecDepth 100000 in
theorem top_near.long (m : Bool) (A0 A1 A2 : Option Addr) (c0 c1 c2 n0 n1 n2 : Nat) (k : Int) (w : World) (h : 20 < n0 ∨ 20 < n1 ∨ 20 < n2) :
    Calls Tryz.prog 5 #[.bool m, .slice A0 n0 c0, .slice A1 n1 c1, .slice A2 n2 c2, .int .i64 k] w fun e w' => e = .returned (.bool true) ∧ Below w.heap.size w w' := by
  have HA := Aside0.mk top_awake.calls
  by_cases h0 : 20 < n0
  · have t0 : decide ((20 : Int) < (n0 : Int)) = true := decide_eq_true (by omega)
    have t0' : decide (20 < n0) = true := decide_eq_true h0
    clear h h0
    go_enter Tryz.func5, Tryz.ntmps5
    go_wp2_with (go_at_call 8; ((with_reducible refine (HA.out _).mono ?_); rintro e w1 ⟨rfl, hbl⟩; have HB := Aside0.mk hbl; clear hbl))
    go_ret
    exact ⟨rfl, HB.out⟩
  · have t0 : decide ((20 : Int) < (n0 : Int)) = false := decide_eq_false (by omega)
    have t0' : decide (20 < n0) = false := decide_eq_false h0
    by_cases h1 : 20 < n1
    · have t1 : decide ((20 : Int) < (n1 : Int)) = true := decide_eq_true (by omega)
      have t1' : decide (20 < n1) = true := decide_eq_true h1
      clear h h0 h1
      go_enter Tryz.func5, Tryz.ntmps5
      go_wp2_with (go_at_call 8; ((with_reducible refine (HA.out _).mono ?_); rintro e w1 ⟨rfl, hbl⟩; have HB := Aside0.mk hbl; clear hbl))
      go_ret
      exact ⟨rfl, HB.out⟩
    · have t1 : decide ((20 : Int) < (n1 : Int)) = false := decide_eq_false (by omega)
      have t1' : decide (20 < n1) = false := decide_eq_false h1
      have t2 : decide ((20 : Int) < (n2 : Int)) = true := decide_eq_true (by omega)
      have t2' : decide (20 < n2) = true := decide_eq_true (by omega)
      clear h h0 h1
      go_enter Tryz.func5, Tryz.ntmps5
      go_wp2_with (go_at_call 8; ((with_reducible refine (HA.out _).mono ?_); rintro e w1 ⟨rfl, hbl⟩; have HB := Aside0.mk hbl; clear hbl))
      go_ret
      exact ⟨rfl, HB.out⟩
theorem top_near.calls (m : Bool) (A0 A1 A2 : Option Addr) (c0 c1 c2 : Nat) (l0 l1 l2 : List Int) (k : Int) (w : World) (h0 : Kd.C (Kd.int .u8) w A0 l0.length l0) (h1 : Kd.C (Kd.int .u8) w A1 l1.length l1) (h2 : Kd.C (Kd.int .u8) w A2 l2.length l2) (k0 : l0.length ≤ c0) (k1 : l1.length ≤ c1) (k2 : l2.length ≤ c2) (u0 : u8s l0) (u1 : u8s l1) (u2 : u8s l2) (hk' : k < 9223372036854775808) :
    Calls Tryz.prog 5 #[.bool m, .slice A0 l0.length c0, .slice A1 l1.length c1, .slice A2 l2.length c2, .int .i64 k] w fun e w' => e = .returned (.bool true) ∧ Below w.heap.size w w' := by
  by_cases h : 20 < l0.length ∨ 20 < l1.length ∨ 20 < l2.length
  · exact top_near.long m A0 A1 A2 c0 c1 c2 _ _ _ k w h
  · exact top_near.small m A0 A1 A2 c0 c1 c2 l0 l1 l2 k w (TextIn.of h0 k0 u0 (by omega)) (TextIn.of h1 k1 u1 (by omega)) (TextIn.of h2 k2 u2 (by omega)) (by omega) (by omega) (by omega) hk'
end Go.Proofs.YtdiojfaenfggkaaGreat.PTopNear
