/- Behind each pair of the least list stands the least list of what is behind that pair's places: no condition beside the statement's own. -/
import Derived.Test.YtmkelmacllkbeaaPLeastRestx9
import Derived.Test.YtmkelmacllkbeaaWSized
namespace Go.Proofs.Ytmkelmacllkbeaa.Pure
open Go.RowKit Go.Proofs.Ytmkelmacllkbeaa.PLeastRest Go.Proofs.YtmkelmacllkbeaaW.PrintWords Go.Proofs.YtmkelmacllkbeaaW.PrintLast Go.Proofs.YtmkelmacllkbeaaW.PrintMore
set_option linter.unusedVariables false
set_option linter.unusedSimpArgs false
/-! Words for the pure side: whole numbers that do not wrap, reads of lists. -/
theorem wr {x : Int} (h : -9223372036854775808 ≤ x) (h' : x < 9223372036854775808) : wrap64 x = x := by unfold wrap64; omega
theorem rd_nat (xs : List Int) (n : Nat) : rd xs (n : Int) = xs.getD n 0 := rfl
theorem rd_at {xs : List Int} {i : Int} {n : Nat} (h : i = (n : Int)) : rd xs i = xs.getD n 0 := by subst h; rfl
theorem drop_getD {xs : List Int} {i : Nat} (h : i < xs.length) : xs.drop i = xs.getD i 0 :: xs.drop (i + 1) := by
 rw [List.drop_eq_getElem_cons h]; simp [List.getD_eq_getElem?_getD, h]
theorem take_getD {xs : List Int} {i : Nat} (h : i < xs.length) : xs.take (i + 1) = xs.take i ++ [xs.getD i 0] := by
 rw [List.take_succ_eq_append_getElem h]; simp [List.getD_eq_getElem?_getD, h]

theorem lz_bind {α β : Type} {a a' : Option α} {f : α → Option β} (h : a = a') : a.bind f = a'.bind f := by rw [h]
theorem lz_ite {α : Type} {c c' : Prop} [s : Decidable c] [s' : Decidable c'] {t e : α} (h : c = c') : ite c t e = ite c' t e := by
 subst h; rw [Subsingleton.elim s s']
attribute [local congr] lz_bind lz_ite
theorem bs {α β : Type} (a : α) (f : α → Option β) : (some a).bind f = f a := by simp
theorem itt {α : Type} (t e : α) : (if (true = true) then t else e) = t := by simp
theorem ift {α : Type} (t e : α) : (if (false = true) then t else e) = e := by simp
theorem ifT {α : Type} (t e : α) : (if True then t else e) = t := by simp
theorem u8_wf {x : Int} (h : (Lit.int .u8 x).wf = true) : 0 ≤ x ∧ x < 256 := by
 have h' := h
 simp only [Lit.wf, Bool.and_eq_true, decide_eq_true_eq] at h'
 have e1 : IntKind.u8.min = 0 := by rfl
 have e2 : IntKind.u8.max = 255 := by rfl
 rw [e1, e2] at h'
 omega
theorem tmod_nat (x n : Nat) : Int.tmod (x : Int) (n : Int) = ((x % n : Nat) : Int) := by
 rw [Int.tmod_eq_emod_of_nonneg (by omega)]; exact (Int.natCast_emod _ _).symm
/-- A number within a list's places and its end. -/
theorem place (x : Int) (n : Nat) (h : 0 ≤ x ∧ x < 256) (hn : n ≤ 1000000) : ∃ p : Nat, p ≤ n ∧ Int.tmod (wrap64 x) (wrap64 ((n : Int) + 1)) = p := by
 obtain ⟨y, rfl⟩ := Int.eq_ofNat_of_zero_le h.1
 rw [wr (by omega) (by omega), wr (by omega) (by omega)]
 refine ⟨y % (n + 1), by have := Nat.mod_lt y (show 0 < n + 1 by omega); omega, ?_⟩
 have := tmod_nat y (n + 1)
 simpa using this

/-! The longest common subsequence of two lists of whole numbers: no program in sight. -/
def lcs : List Int → List Int → Nat
 | [], _ => 0
 | _ :: _, [] => 0
 | a :: xt, b :: yt => if a = b then lcs xt yt + 1 else max (lcs xt (b :: yt)) (lcs (a :: xt) yt)
termination_by xs ys => xs.length + ys.length

@[simp] theorem lcs_nil_left (ys : List Int) : lcs [] ys = 0 := by cases ys <;> simp [lcs]
@[simp] theorem lcs_nil_right (xs : List Int) : lcs xs [] = 0 := by cases xs <;> simp [lcs]
theorem lcs_cons (a b : Int) (xt yt : List Int) : lcs (a :: xt) (b :: yt) = if a = b then lcs xt yt + 1 else max (lcs xt (b :: yt)) (lcs (a :: xt) yt) := by
 rw [lcs]

theorem lcs_ex (xs ys : List Int) : ∃ s : List Int, s.Sublist xs ∧ s.Sublist ys ∧ s.length = lcs xs ys := by
 induction xs, ys using lcs.induct with
 | case1 ys => exact ⟨[], by simp⟩
 | case2 a xt => exact ⟨[], by simp⟩
 | case3 xt b yt ih =>
  obtain ⟨s, h1, h2, h3⟩ := ih
  exact ⟨b :: s, h1.cons_cons b, h2.cons_cons b, by rw [lcs_cons, if_pos rfl]; simp [h3]⟩
 | case4 a xt b yt hne ih1 ih2 =>
  rw [lcs_cons, if_neg hne]
  by_cases h : lcs (a :: xt) yt ≤ lcs xt (b :: yt)
  ·obtain ⟨s, h1, h2, h3⟩ := ih1
   exact ⟨s, h1.cons a, h2, by omega⟩
  ·obtain ⟨s, h1, h2, h3⟩ := ih2
   exact ⟨s, h1, h2.cons b, by omega⟩

theorem lcs_le_left (xs ys : List Int) : lcs xs ys ≤ xs.length := by
 obtain ⟨s, h1, _, h3⟩ := lcs_ex xs ys
 have := h1.length_le
 omega
/-! Lists told place by place. -/
def seq {α : Type} (n : Nat) (F : Nat → α) : List α := (List.range n).map F
def upd {α : Type} (F : Nat → α) (i : Nat) (v : α) : Nat → α := fun j => if j = i then v else F j
theorem upd_same {α : Type} (F : Nat → α) (i : Nat) (v : α) : upd F i v i = v := by simp [upd]
theorem upd_ne {α : Type} (F : Nat → α) {i j : Nat} (v : α) (h : j ≠ i) : upd F i v j = F j := by simp [upd, h]
theorem seq_length {α : Type} (n : Nat) (F : Nat → α) : (seq n F).length = n := by simp [seq]
theorem seq_getD {α : Type} {n : Nat} (F : Nat → α) {i : Nat} (h : i < n) (d : α) : (seq n F).getD i d = F i := by simp [seq, h, List.getD_eq_getElem?_getD]
theorem seq_getElem {α : Type} {n : Nat} (F : Nat → α) {i : Nat} (h : i < (seq n F).length) : (seq n F)[i] = F i := by simp [seq]
theorem seq_ext {α : Type} {n : Nat} {F G : Nat → α} (h : ∀ i, i < n → F i = G i) : seq n F = seq n G := by
 unfold seq; exact List.map_congr_left fun i hi => h i (List.mem_range.1 hi)
theorem seq_set {α : Type} {n : Nat} (F : Nat → α) (i : Nat) (v : α) : (seq n F).set i v = seq n (upd F i v) := by
 apply List.ext_getElem
 ·simp [seq_length]
 ·intro j h1 h2
  rw [List.getElem_set, seq_getElem, seq_getElem]
  unfold upd
  by_cases h : i = j
  ·rw [if_pos h, if_pos h.symm]
  ·rw [if_neg h, if_neg (fun e => h e.symm)]
theorem seq_const {α : Type} (n : Nat) (v : α) : List.replicate n v = seq n (fun _ => v) := by
 apply List.ext_getElem
 ·simp [seq_length]
 ·intro j h1 h2; simp [seq]
theorem rd_seq {n : Nat} (F : Nat → Int) {i : Int} {p : Nat} (h : p < n) (e : i = (p : Int)) : rd (seq n F) i = F p := by
 subst e; rw [rd_nat, seq_getD F h]

theorem rd_L1_seq {n : Nat} (F : Nat → List Int) {i : Int} {p : Nat} (h : p < n) (e : i = (p : Int)) : rd_L1 (seq n F) i = F p := by
 subst e; unfold rd_L1; rw [Int.toNat_natCast, seq_getD F h]

/-- What both lists have in common behind two places. -/
def T (a b : List Int) (i j : Nat) : Nat := lcs (a.drop i) (b.drop j)
theorem T_out_left {a b : List Int} {i j : Nat} (h : a.length ≤ i) : T a b i j = 0 := by unfold T; rw [List.drop_eq_nil_of_le h]; simp
theorem T_out_right {a b : List Int} {i j : Nat} (h : b.length ≤ j) : T a b i j = 0 := by unfold T; rw [List.drop_eq_nil_of_le h]; simp
theorem T_step {a b : List Int} {i j : Nat} (h : i < a.length) (h' : j < b.length) : T a b i j = if a.getD i 0 = b.getD j 0 then T a b (i + 1) (j + 1) + 1 else max (T a b (i + 1) j) (T a b i (j + 1)) := by
 unfold T; rw [drop_getD h, drop_getD h', lcs_cons]
theorem T_le_left (a b : List Int) (i j : Nat) : T a b i j ≤ a.length - i := by have := lcs_le_left (a.drop i) (b.drop j); unfold T; simpa using this
theorem T_zero (a b : List Int) : T a b 0 0 = lcs a b := rfl
/-- The whole table. -/
def behind (a b : List Int) : List (List Int) := seq (a.length + 1) fun i => seq (b.length + 1) fun j => (T a b i j : Int)

theorem grid_table_l0 (n m : Nat) (hn : n ≤ 100000) (hm : m ≤ 100000) : ∀ (d i : Nat) (F : Nat → List Int), i + d = n + 1 → (∀ j, j < i → F j = seq (m + 1) fun _ => 0) →
  Ev (fun k => grid_table.l0 k m (seq (n + 1) F) ((n + 1 : Nat) : Int) i) (seq (n + 1) fun _ => seq (m + 1) fun _ => 0) := by
 intro d
 induction d with
 | zero =>
  intro i F hi hF
  refine Ev.step (f := fun _ => some (seq (n + 1) F)) (fun k => ?_) ?_
  ·simp (disch := omega) only [grid_table.l0, if_neg]
  ·rw [seq_ext (G := fun _ => seq (m + 1) fun _ => (0 : Int)) (fun j hj => hF j (by omega))]
   exact Ev.now _
 | succ d ih =>
  intro i F hi hF
  refine Ev.step (fun k => ?_) (ih (i + 1) (upd F i (seq (m + 1) fun _ => 0)) (by omega) ?_)
  ·have hl := seq_length (n + 1) F
   have e : (((m : Int) + 1)).toNat = m + 1 := by omega
   simp (disch := omega) only [grid_table.l0, wr, if_pos, e, seq_const, hl, Int.toNat_natCast, seq_set]
   simp only [Int.natCast_add, Int.cast_ofNat_Int]
  ·intro j hj
   by_cases h : j = i
   ·subst h; rw [upd_same]
   ·rw [upd_ne _ _ h]; exact hF j (by omega)
theorem grid_table_eq (n m : Nat) (hn : n ≤ 100000) (hm : m ≤ 100000) : Ev (fun k => grid_table.f k n m) (seq (n + 1) fun _ => seq (m + 1) fun _ => 0) := by
 refine Ev.congr (fun k => ?_) (grid_table_l0 n m hn hm (n + 1) 0 (fun _ => []) (by omega) (by omega))
 have e : (((n : Int) + 1)).toNat = n + 1 := by omega
 have hl := seq_length (n + 1) (fun _ => ([] : List Int))
 unfold grid_table.f
 simp (disch := omega) only [wr, if_pos, e, bs, seq_const, hl]
 rfl

theorem grid_Behind_l1 (a b : List Int) (ha : a.length ≤ 100000) (hb : b.length ≤ 100000) (r : List (List Int)) (i : Nat) (hi : i < a.length) : ∀ (j : Nat) (f : Nat → Nat → Int), j ≤ b.length →
  (∀ p q, i < p → p ≤ a.length → q ≤ b.length → f p q = T a b p q) → (∀ q, j ≤ q → q ≤ b.length → f i q = T a b i q) → (∀ p, p < i → f p b.length = 0) →
  (∀ g : Nat → Nat → Int, (∀ p q, i ≤ p → p ≤ a.length → q ≤ b.length → g p q = T a b p q) → (∀ p, p < i → g p b.length = 0) →
   Ev (fun k => grid_Behind.l0 k a b (seq (a.length + 1) fun p => seq (b.length + 1) (g p)) ((i : Int) - 1)) r) →
  Ev (fun k => grid_Behind.l1 k a b (seq (a.length + 1) fun p => seq (b.length + 1) (f p)) i ((j : Int) - 1)) r := by
 intro j
 induction j with
 | zero =>
  intro f hj h1 h2 h3 hr
  refine Ev.step (fun k => ?_) (hr f (fun p q hp hp' hq => ?_) h3)
  ·simp (disch := omega) only [grid_Behind.l1, wr, if_neg]
  ·by_cases h : p = i
   ·subst h; exact h2 q (by omega) hq
   ·exact h1 p q (by omega) hp' hq
 | succ j ih =>
  intro f hj h1 h2 h3 hr
  have l0 := seq_length (a.length + 1) fun p => seq (b.length + 1) (f p)
  have l1 : ∀ p, (seq (b.length + 1) (f p)).length = b.length + 1 := fun p => seq_length _ _
  have e1 : rd a (i : Int) = a.getD i 0 := rfl
  have e2 : rd b ((((j + 1 : Nat) : Int)) - 1) = b.getD j 0 := rd_at (by omega)
  have e3 := rd_L1_seq (n := a.length + 1) (fun p => seq (b.length + 1) (f p)) (i := (i : Int)) (p := i) (by omega) rfl
  have e4 := rd_L1_seq (n := a.length + 1) (fun p => seq (b.length + 1) (f p)) (i := (i : Int) + 1) (p := i + 1) (by omega) (by omega)
  have e5 := rd_seq (n := b.length + 1) (f (i + 1)) (i := (((j + 1 : Nat) : Int)) - 1 + 1) (p := j + 1) (by omega) (by omega)
  have e6 := rd_seq (n := b.length + 1) (f (i + 1)) (i := (((j + 1 : Nat) : Int)) - 1) (p := j) (by omega) (by omega)
  have e7 := rd_seq (n := b.length + 1) (f i) (i := (((j + 1 : Nat) : Int)) - 1 + 1) (p := j + 1) (by omega) (by omega)
  have hs := T_step (a := a) (b := b) (i := i) (j := j) hi (by omega)
  have t1 := T_le_left a b (i + 1) (j + 1)
  have v1 := h1 (i + 1) (j + 1) (by omega) (by omega) (by omega)
  have v2 := h1 (i + 1) j (by omega) (by omega) (by omega)
  have v3 := h2 (j + 1) (by omega) (by omega)
  have key : ∀ v : Int, v = T a b i j → Ev (fun k => grid_Behind.l1 k a b ((seq (a.length + 1) fun p => seq (b.length + 1) (f p)).set (i : Int).toNat ((seq (b.length + 1) (f i)).set ((((j + 1 : Nat) : Int)) - 1).toNat v)) i ((((j + 1 : Nat) : Int)) - 1 - 1)) r := by
   intro v hv
   rw [show ((((j + 1 : Nat) : Int)) - 1).toNat = j by omega, show ((((j + 1 : Nat) : Int)) - 1 - 1) = (j : Int) - 1 by omega, Int.toNat_natCast, seq_set, seq_set]
   have hg := ih (fun p => upd (fun p => f p) i (upd (f i) j v) p) (by omega) (fun p q hp hp' hq => by
    show upd (fun p => f p) i (upd (f i) j v) p q = _
    rw [upd_ne _ _ (by omega)]; exact h1 p q hp hp' hq) (fun q hq hq' => by
    show upd (fun p => f p) i (upd (f i) j v) i q = _
    rw [upd_same]
    by_cases h : q = j
    ·subst h; rw [upd_same, hv]
    ·rw [upd_ne _ _ h]; exact h2 q (by omega) hq') (fun p hp => by
    show upd (fun p => f p) i (upd (f i) j v) p b.length = _
    rw [upd_ne _ _ (by omega)]; exact h3 p hp) hr
   have e : (seq (a.length + 1) fun p => seq (b.length + 1) (upd (fun p => f p) i (upd (f i) j v) p)) = seq (a.length + 1) (upd (fun p => seq (b.length + 1) (f p)) i (seq (b.length + 1) (upd (f i) j v))) := by
    refine seq_ext fun p hp => ?_
    by_cases h : p = i
    ·subst h; rw [upd_same, upd_same]
    ·rw [upd_ne _ _ h, upd_ne _ _ h]
   rw [← e]; exact hg
  by_cases hab : a.getD i 0 = b.getD j 0
  ·refine Ev.step (fun k => ?_) (key (f (i + 1) (j + 1) + 1) ?_)
   ·simp (disch := omega) only [grid_Behind.l1, wr, if_pos, e1, e2, e3, e4, e5, l0, l1, if_pos hab]
   ·rw [hs, if_pos hab, v1]; simp
  ·refine Ev.step (fun k => ?_) (key (mx (f (i + 1) j) (f i (j + 1))) ?_)
   ·simp (disch := omega) only [grid_Behind.l1, wr, if_pos, e1, e2, e3, e4, e6, e7, l0, l1]
    simp (disch := omega) only [if_neg hab, if_pos, wr]
   ·rw [hs, if_neg hab, v2, v3]; unfold mx; omega
theorem grid_Behind_l0 (a b : List Int) (ha : a.length ≤ 100000) (hb : b.length ≤ 100000) : ∀ (i : Nat) (f : Nat → Nat → Int), i ≤ a.length →
  (∀ p q, i ≤ p → p ≤ a.length → q ≤ b.length → f p q = T a b p q) → (∀ p, p < i → f p b.length = 0) →
  Ev (fun k => grid_Behind.l0 k a b (seq (a.length + 1) fun p => seq (b.length + 1) (f p)) ((i : Int) - 1)) (behind a b) := by
 intro i
 induction i with
 | zero =>
  intro f hi h1 h2
  refine Ev.step (f := fun _ => some _) (fun k => ?_) (Ev.now _)
  simp (disch := omega) only [grid_Behind.l0, if_neg]
  congr 1
  exact seq_ext fun p hp => seq_ext fun q hq => h1 p q (by omega) (by omega) (by omega)
 | succ i ih =>
  intro f hi h1 h2
  refine Ev.step (fun k => ?_) (grid_Behind_l1 a b ha hb (behind a b) i (by omega) b.length f (by omega) (fun p q hp hp' hq => h1 p q (by omega) hp' hq) (fun q hq hq' => ?_) (fun p hp => h2 p (by omega)) (fun g g1 g2 => ih g (by omega) g1 g2))
  ·simp (disch := omega) only [grid_Behind.l0, wr, if_pos]
   rw [show ((((i + 1 : Nat) : Int)) - 1) = (i : Int) by omega]
  ·obtain rfl : q = b.length := by omega
   rw [h2 i (by omega), T_out_right (by omega)]; rfl
theorem grid_Behind_eq (a b : List Int) (ha : a.length ≤ 100000) (hb : b.length ≤ 100000) : Ev (fun k => grid_Behind.f k a b) (behind a b) := by
 unfold grid_Behind.f
 refine Ev.bind (grid_table_eq a.length b.length ha hb) ?_
 have := grid_Behind_l0 a b ha hb a.length (fun _ _ => 0) (by omega) (fun p q hp hp' hq => by rw [T_out_left (by omega)]; rfl) (fun _ _ => rfl)
 refine Ev.congr (fun k => ?_) this
 rw [wr (by omega) (by omega)]

theorem drop_getD_pair {xs : List S26} {i : Nat} (h : i < xs.length) : xs.drop i = xs.getD i z26 :: xs.drop (i + 1) := by
 rw [List.drop_eq_getElem_cons h]; simp [List.getD_eq_getElem?_getD, h]

def trow (a b : List Int) (p : Nat) : List Int := seq (b.length + 1) fun q => (T a b p q : Int)
theorem tattingref7_Behind_l1 (a b : List Int) (ha : a.length ≤ 100000) (hb : b.length ≤ 100000) (r : List (List Int)) (i : Nat) (hi : i < a.length) (F : Nat → List Int) (hF : ∀ p, i < p → p ≤ a.length → F p = trow a b p)
  (hr : ∀ G : Nat → List Int, (∀ p, i ≤ p → p ≤ a.length → G p = trow a b p) → Ev (fun k => tattingref7_Behind.l0 k a b (seq (a.length + 1) G) ((i : Int) - 1)) r) : ∀ (j : Nat) (g : Nat → Int), j ≤ b.length → (∀ q, j ≤ q → q ≤ b.length → g q = T a b i q) →
  Ev (fun k => tattingref7_Behind.l1 k a b (seq (a.length + 1) (upd F i (seq (b.length + 1) g))) i ((j : Int) - 1)) r := by
 intro j
 induction j with
 | zero =>
  intro g hj h2
  refine Ev.step (f := fun k => tattingref7_Behind.j2 k a b (seq (a.length + 1) (upd F i (seq (b.length + 1) g))) i (((0 : Nat) : Int) - 1) false) (fun k => ?_) ?_
  ·have e : decide ((((0 : Nat) : Int) - 1) ≥ 0) = false := decide_eq_false (by omega)
   rw [tattingref7_Behind.l1, if_pos (by omega), e]
  ·refine Ev.step (fun k => ?_) (hr (upd F i (seq (b.length + 1) g)) (fun p hp hp' => ?_))
   ·rw [tattingref7_Behind.j2, ift, wr (by omega) (by omega)]
   ·by_cases h : p = i
    ·subst h; rw [upd_same]; exact seq_ext fun q hq => h2 q (by omega) (by omega)
    ·rw [upd_ne _ _ h]; exact hF p (by omega) hp'
 | succ j ih =>
  intro g hj h2
  refine Ev.step (f := fun k => tattingref7_Behind.j2 k a b (seq (a.length + 1) (upd F i (seq (b.length + 1) g))) i (((j + 1 : Nat) : Int) - 1) true) (fun k => ?_) ?_
  ·have e : decide ((((j + 1 : Nat) : Int) - 1) ≥ 0) = true := decide_eq_true (by omega)
   rw [tattingref7_Behind.l1, if_pos (by omega), e]
  have hF1 := hF (i + 1) (by omega) (by omega)
  have hu : upd F i (seq (b.length + 1) g) (i + 1) = trow a b (i + 1) := by rw [upd_ne _ _ (by omega)]; exact hF1
  have l0 := seq_length (a.length + 1) (upd F i (seq (b.length + 1) g))
  have l1 := seq_length (b.length + 1) g
  have l2 : (trow a b (i + 1)).length = b.length + 1 := seq_length _ _
  have e1 : rd a (i : Int) = a.getD i 0 := rfl
  have e2 : rd b ((((j + 1 : Nat) : Int)) - 1) = b.getD j 0 := rd_at (by omega)
  have e3 := rd_L1_seq (n := a.length + 1) (upd F i (seq (b.length + 1) g)) (i := (i : Int)) (p := i) (by omega) rfl
  rw [upd_same] at e3
  have e4 := rd_L1_seq (n := a.length + 1) (upd F i (seq (b.length + 1) g)) (i := (i : Int) + 1) (p := i + 1) (by omega) (by omega)
  rw [hu] at e4
  have e5 : rd (trow a b (i + 1)) ((((j + 1 : Nat) : Int)) - 1 + 1) = T a b (i + 1) (j + 1) := rd_seq (n := b.length + 1) (fun q => (T a b (i + 1) q : Int)) (p := j + 1) (by omega) (by omega)
  have e6 : rd (trow a b (i + 1)) ((((j + 1 : Nat) : Int)) - 1) = T a b (i + 1) j := rd_seq (n := b.length + 1) (fun q => (T a b (i + 1) q : Int)) (p := j) (by omega) (by omega)
  have e7 := rd_seq (n := b.length + 1) g (i := (((j + 1 : Nat) : Int)) - 1 + 1) (p := j + 1) (by omega) (by omega)
  have hs := T_step (a := a) (b := b) (i := i) (j := j) hi (by omega)
  have t1 := T_le_left a b (i + 1) (j + 1)
  have v3 := h2 (j + 1) (by omega) (by omega)
  have key : ∀ v : Int, v = T a b i j → Ev (fun k => tattingref7_Behind.l1 k a b ((seq (a.length + 1) (upd F i (seq (b.length + 1) g))).set (i : Int).toNat ((seq (b.length + 1) g).set ((((j + 1 : Nat) : Int)) - 1).toNat v)) i ((((j + 1 : Nat) : Int)) - 1 - 1)) r := by
   intro v hv
   rw [show ((((j + 1 : Nat) : Int)) - 1).toNat = j by omega, show ((((j + 1 : Nat) : Int)) - 1 - 1) = (j : Int) - 1 by omega, Int.toNat_natCast, seq_set, seq_set]
   have hg := ih (upd g j v) (by omega) (fun q hq hq' => by
    by_cases h : q = j
    ·subst h; rw [upd_same, hv]
    ·rw [upd_ne _ _ h]; exact h2 q (by omega) hq')
   have e : upd (upd F i (seq (b.length + 1) g)) i (seq (b.length + 1) (upd g j v)) = upd F i (seq (b.length + 1) (upd g j v)) := by
    funext p
    by_cases h : p = i
    ·subst h; rw [upd_same, upd_same]
    ·rw [upd_ne _ _ h, upd_ne _ _ h, upd_ne _ _ h]
   rw [e]; exact hg
  by_cases hab : a.getD i 0 = b.getD j 0
  ·refine Ev.step (fun k => ?_) (key (T a b (i + 1) (j + 1) + 1) ?_)
   ·simp (disch := omega) only [tattingref7_Behind.j2, itt, ifT, wr, if_pos, e1, e2, e3, e4, e5, l0, l1, l2, if_pos hab]
   ·rw [hs, if_pos hab]; simp
  ·refine Ev.step (fun k => ?_) (key (mx (T a b (i + 1) j) (g (j + 1))) ?_)
   ·simp (disch := omega) only [tattingref7_Behind.j2, itt, ifT, wr, if_pos, e1, e2, e3, e4, e6, e7, l0, l1, l2]
    simp (disch := omega) only [if_neg hab, if_pos, wr]
   ·rw [hs, if_neg hab, v3]; unfold mx; omega
theorem tattingref7_Behind_l0 (a b : List Int) (ha : a.length ≤ 100000) (hb : b.length ≤ 100000) : ∀ (i : Nat) (F : Nat → List Int), i ≤ a.length →
  (∀ p, i ≤ p → p ≤ a.length → F p = trow a b p) → Ev (fun k => tattingref7_Behind.l0 k a b (seq (a.length + 1) F) ((i : Int) - 1)) (behind a b) := by
 intro i
 induction i with
 | zero =>
  intro F hi h1
  refine Ev.step (f := fun _ => some _) (fun k => ?_) (Ev.now _)
  simp (disch := omega) only [tattingref7_Behind.l0, if_neg]
  congr 1
  exact seq_ext fun p hp => h1 p (by omega) (by omega)
 | succ i ih =>
  intro F hi h1
  refine Ev.step (fun k => ?_) (tattingref7_Behind_l1 a b ha hb (behind a b) i (by omega) F (fun p hp hp' => h1 p (by omega) hp') (fun G hG => ih G (by omega) hG) b.length (fun _ => 0) (by omega) (fun q hq hq' => ?_))
  ·have l0 := seq_length (a.length + 1) F
   have e : ((b.length : Int) + 1).toNat = b.length + 1 := by omega
   simp (disch := omega) only [tattingref7_Behind.l0, wr, if_pos, e, l0, seq_const, seq_set]
   rw [show ((((i + 1 : Nat) : Int)) - 1) = (i : Int) by omega, Int.toNat_natCast]
  ·rw [T_out_right (by omega)]; rfl
theorem tattingref7_Behind_eq (a b : List Int) (ha : a.length ≤ 100000) (hb : b.length ≤ 100000) : Ev (fun k => tattingref7_Behind.f k a b) (behind a b) := by
 have hrow : (seq (b.length + 1) fun _ => (0 : Int)) = trow a b a.length := seq_ext fun q hq => by rw [T_out_left (by omega)]; rfl
 have h0 := tattingref7_Behind_l0 a b ha hb a.length (upd (fun _ => []) a.length (seq (b.length + 1) fun _ => 0)) (by omega) (fun p hp hp' => by
  obtain rfl : p = a.length := by omega
  rw [upd_same, hrow])
 have h1 : Ev (fun k => tattingref7_Behind.l1 k a b (seq (a.length + 1) (upd (fun _ => []) a.length (seq (b.length + 1) fun _ => 0))) a.length ((b.length : Int) - 1)) (behind a b) := by
  refine Ev.step (f := fun k => tattingref7_Behind.j2 k a b (seq (a.length + 1) (upd (fun _ => []) a.length (seq (b.length + 1) fun _ => 0))) a.length ((b.length : Int) - 1) false) (fun k => ?_) (Ev.step (fun k => ?_) h0)
  ·rw [tattingref7_Behind.l1, if_neg (by omega)]
  ·rw [tattingref7_Behind.j2, ift, wr (by omega) (by omega)]
 have h2 : Ev (fun k => tattingref7_Behind.l0 k a b (seq (a.length + 1) (fun _ => [])) a.length) (behind a b) := by
  refine Ev.step (fun k => ?_) h1
  have l0 := seq_length (a.length + 1) (fun _ => ([] : List Int))
  have e : ((b.length : Int) + 1).toNat = b.length + 1 := by omega
  simp (disch := omega) only [tattingref7_Behind.l0, wr, if_pos, e, l0, seq_const, seq_set]
  rw [Int.toNat_natCast]
 refine Ev.congr (fun k => ?_) h2
 have e : ((a.length : Int) + 1).toNat = a.length + 1 := by omega
 unfold tattingref7_Behind.f
 simp (disch := omega) only [wr, if_pos, e, seq_const]

theorem tattingref7_Len_eq (a b : List Int) (ha : a.length ≤ 100000) (hb : b.length ≤ 100000) : Ev (fun k => tattingref7_Len.f k a b) (lcs a b : Int) := by
 unfold tattingref7_Len.f
 refine Ev.bind (tattingref7_Behind_eq a b ha hb) ?_
 refine Ev.congr (fun k => ?_) (Ev.now _)
 have l0 : (behind a b).length = a.length + 1 := seq_length _ _
 have e3 : rd_L1 (behind a b) 0 = trow a b 0 := rd_L1_seq (n := a.length + 1) _ (p := 0) (by omega) rfl
 have l1 : (trow a b 0).length = b.length + 1 := seq_length _ _
 have e4 : rd (trow a b 0) 0 = T a b 0 0 := rd_seq (n := b.length + 1) _ (p := 0) (by omega) rfl
 simp (disch := omega) only [if_pos, l0, e3, l1, e4]
 rfl

def few (a : List Int) (n : Int) : List Int := a.map (· % n)
theorem few_length (a : List Int) (n : Int) : (few a n).length = a.length := by simp [few]
theorem tmod_few (x n : Int) (hn : 0 < n) : (if Int.tmod x n < 0 then Int.tmod x n + n else Int.tmod x n) = x % n := by
 rw [Int.tmod_eq_emod]
 have h1 := Int.emod_nonneg x (show n ≠ 0 by omega)
 have h2 := Int.emod_lt_of_pos x hn
 have h3 : (n.natAbs : Int) = n := by omega
 by_cases h : 0 ≤ x ∨ n ∣ x
 ·rw [if_pos h]; rw [if_neg (by omega)]; omega
 ·rw [if_neg h, h3]
  have h4 : x % n ≠ 0 := fun e => h (.inr (Int.dvd_of_emod_eq_zero e))
  rw [if_pos (by omega)]; omega
theorem few_take (a : List Int) (n : Int) (i : Nat) (h : i < a.length) : few (a.take (i + 1)) n = few (a.take i) n ++ [a.getD i 0 % n] := by
 rw [take_getD h]; simp [few]
theorem tattingref1_Few_l0 (a : List Int) (n : Int) (hn : 0 < n) (hn' : n ≤ 1000000) (ha : a.length ≤ 1000000) : ∀ (d k i : Nat), i + d = a.length → d < k →
  tattingref1_Few.l0 k a n (few (a.take i) n) i = some (few a n) := by
 intro d
 induction d with
 | zero =>
  intro k i hi hk
  obtain ⟨k, rfl⟩ : ∃ m, k = m + 1 := ⟨k - 1, by omega⟩
  simp (disch := omega) only [tattingref1_Few.l0, if_neg]
  rw [List.take_of_length_le (by omega)]
 | succ d ih =>
  intro k i hi hk
  obtain ⟨k, rfl⟩ : ∃ m, k = m + 1 := ⟨k - 1, by omega⟩
  have e1 : rd a (i : Int) = a.getD i 0 := rfl
  have hl : (few (a.take i) n).length ≤ a.length := by rw [few_length]; simp; omega
  have h1 := Int.emod_nonneg (a.getD i 0) (show n ≠ 0 by omega)
  have h2 := Int.emod_lt_of_pos (a.getD i 0) hn
  have h3 := tmod_few (a.getD i 0) n hn
  have h4 := ih k (i + 1) (by omega) (by omega)
  rw [few_take a n i (by omega)] at h4
  simp only [Int.natCast_add, Int.cast_ofNat_Int] at h4
  simp (disch := omega) only [tattingref1_Few.l0, if_pos, if_neg, e1, wr]
  split
  ·rename_i hlt
   rw [if_pos hlt] at h3
   rw [h3]; exact h4
  ·rename_i hlt
   rw [if_neg hlt] at h3
   rw [h3]; exact h4
theorem tattingref1_Few_eq (a : List Int) (n : Int) (hn : 0 < n) (hn' : n ≤ 1000000) (ha : a.length ≤ 1000000) (k : Nat) (hk : a.length < k) : tattingref1_Few.f k a n = some (few a n) := by
 have := tattingref1_Few_l0 a n hn hn' ha a.length k 0 (by omega) hk
 unfold tattingref1_Few.f
 simpa [few] using this

/-- A pair behind which there is just one less. -/
def hit (a b : List Int) (want : Nat) (x y : Nat) : Prop := x < a.length ∧ y < b.length ∧ a.getD x 0 = b.getD y 0 ∧ T a b (x + 1) (y + 1) + 1 = want
/-- The first such pair from two places on. -/
def isFirst (a b : List Int) (want i j x y : Nat) : Prop := i ≤ x ∧ j ≤ y ∧ hit a b want x y ∧ ∀ x' y', i ≤ x' → j ≤ y' → (x' < x ∨ (x' = x ∧ y' < y)) → ¬ hit a b want x' y'
/-- The list of first pairs. -/
def isLeast (a b : List Int) : Nat → Nat → List S26 → Prop
 | i, j, [] => T a b i j = 0
 | i, j, p :: l => ∃ x y : Nat, p = ⟨x, y⟩ ∧ isFirst a b (T a b i j) i j x y ∧ isLeast a b (x + 1) (y + 1) l
theorem T_pair {a b : List Int} {x y : Nat} (hx : x < a.length) (hy : y < b.length) (e : a.getD x 0 = b.getD y 0) : T a b x y = T a b (x + 1) (y + 1) + 1 := by
 rw [T_step hx hy, if_pos e]
theorem hit_some (a b : List Int) : ∀ (d i j : Nat), (a.length - i) + (b.length - j) = d → T a b i j ≠ 0 → ∃ x y, i ≤ x ∧ j ≤ y ∧ hit a b (T a b i j) x y := by
 intro d
 induction d using Nat.strongRecOn with
 | ind d ih =>
  intro i j hd h0
  by_cases hi : i < a.length
  ·by_cases hj : j < b.length
   ·by_cases e : a.getD i 0 = b.getD j 0
    ·exact ⟨i, j, Nat.le_refl _, Nat.le_refl _, hi, hj, e, (T_pair hi hj e).symm⟩
    ·have hs := T_step hi hj
     rw [if_neg e] at hs
     by_cases hle : T a b (i + 1) j ≤ T a b i (j + 1)
     ·have e2 : T a b i j = T a b i (j + 1) := by omega
      obtain ⟨x, y, h1, h2, h3⟩ := ih _ (by omega) i (j + 1) rfl (by omega)
      exact ⟨x, y, h1, by omega, by rw [e2]; exact h3⟩
     ·have e2 : T a b i j = T a b (i + 1) j := by omega
      obtain ⟨x, y, h1, h2, h3⟩ := ih _ (by omega) (i + 1) j rfl (by omega)
      exact ⟨x, y, by omega, h2, by rw [e2]; exact h3⟩
   ·exact absurd (T_out_right (by omega)) h0
  ·exact absurd (T_out_left (by omega)) h0
/-- Of what holds somewhere there is a first place. -/
theorem first_nat {P : Nat → Prop} : ∀ n, P n → ∃ m, P m ∧ ∀ k, k < m → ¬ P k := by
 intro n
 induction n using Nat.strongRecOn with
 | ind n ih =>
  intro h
  by_cases c : ∃ k, k < n ∧ P k
  ·obtain ⟨k, hk, hp⟩ := c
   exact ih k hk hp
  ·exact ⟨n, h, fun k hk hp => c ⟨k, hk, hp⟩⟩
theorem isFirst_ex (a b : List Int) (i j : Nat) (h : T a b i j ≠ 0) : ∃ x y, isFirst a b (T a b i j) i j x y := by
 obtain ⟨x0, y0, h1, h2, h3⟩ := hit_some a b _ i j rfl h
 obtain ⟨x, ⟨hx, y1, hy1, hh⟩, hmin⟩ := first_nat (P := fun x => i ≤ x ∧ ∃ y, j ≤ y ∧ hit a b (T a b i j) x y) x0 ⟨h1, y0, h2, h3⟩
 obtain ⟨y, ⟨hy, hh'⟩, hmin'⟩ := first_nat (P := fun y => j ≤ y ∧ hit a b (T a b i j) x y) y1 ⟨hy1, hh⟩
 refine ⟨x, y, hx, hy, hh', fun x' y' h4 h5 h6 h7 => ?_⟩
 rcases h6 with h6 | ⟨rfl, h6⟩
 ·exact hmin x' h6 ⟨h4, y', h5, h7⟩
 ·exact hmin' y' h6 ⟨h5, h7⟩
theorem isLeast_ex (a b : List Int) : ∀ (n i j : Nat), T a b i j = n → ∃ l : List S26, isLeast a b i j l := by
 intro n
 induction n with
 | zero => intro i j h; exact ⟨[], h⟩
 | succ n ih =>
  intro i j h
  obtain ⟨x, y, hf⟩ := isFirst_ex a b i j (by omega)
  obtain ⟨l, hl⟩ := ih (x + 1) (y + 1) (by have := hf.2.2.1.2.2.2; omega)
  exact ⟨⟨x, y⟩ :: l, x, y, rfl, hf, hl⟩
theorem isLeast_len {a b : List Int} : ∀ {l : List S26} {i j : Nat}, isLeast a b i j l → l.length = T a b i j
 | [], _, _, h => h.symm
 | p :: l, i, j, ⟨x, y, _, hf, hl⟩ => by have := isLeast_len hl; have := hf.2.2.1.2.2.2; simp; omega
theorem isFirst_same {a b : List Int} {w i j x y x' y' : Nat} (h : isFirst a b w i j x y) (h' : isFirst a b w i j x' y') : x = x' ∧ y = y' := by
 obtain ⟨h1, h2, h3, h4⟩ := h
 obtain ⟨g1, g2, g3, g4⟩ := h'
 have c1 := h4 x' y' g1 g2
 have c2 := g4 x y h1 h2
 by_cases e1 : x' < x
 ·exact absurd g3 (c1 (.inl e1))
 ·by_cases e2 : x < x'
  ·exact absurd h3 (c2 (.inl e2))
  ·obtain rfl : x = x' := by omega
   by_cases e3 : y' < y
   ·exact absurd g3 (c1 (.inr ⟨rfl, e3⟩))
   ·by_cases e4 : y < y'
    ·exact absurd h3 (c2 (.inr ⟨rfl, e4⟩))
    ·exact ⟨rfl, by omega⟩
theorem isLeast_same {a b : List Int} : ∀ {l l' : List S26} {i j : Nat}, isLeast a b i j l → isLeast a b i j l' → l = l'
 | [], [], _, _, _, _ => rfl
 | [], p :: l', i, j, h, ⟨x, y, _, hf, _⟩ => by have := hf.2.2.1.2.2.2; have h : T a b i j = 0 := h; omega
 | p :: l, [], i, j, ⟨x, y, _, hf, _⟩, h => by have := hf.2.2.1.2.2.2; have h : T a b i j = 0 := h; omega
 | p :: l, p' :: l', i, j, ⟨x, y, hp, hf, hl⟩, ⟨x', y', hp', hf', hl'⟩ => by
  obtain ⟨rfl, rfl⟩ := isFirst_same hf hf'
  rw [hp, hp', isLeast_same hl hl']

theorem least_next_l (a b : List Int) (ha : a.length ≤ 100000) (hb : b.length ≤ 100000) (w i j x y : Nat) (hw : w ≤ 100000) (hf : isFirst a b w i j x y) : ∀ (d p q : Nat), (x - p) * (b.length + 2) + (b.length + 1 - q) = d → i ≤ p → j ≤ q → (p < x ∨ (p = x ∧ q ≤ y)) → q ≤ b.length →
  Ev (fun k => least_next.l1 k (behind a b) a b j w p q) (x, y, true) := by
 obtain ⟨hx, hy, ⟨hx', hy', he, hT⟩, hmin⟩ := hf
 intro d
 induction d using Nat.strongRecOn with
 | ind d ih =>
  intro p q hd hp hq hpq hqb
  have l0 : (behind a b).length = a.length + 1 := seq_length _ _
  by_cases hend : q < b.length
  ·have e1 : rd a (p : Int) = a.getD p 0 := rfl
   have e2 : rd b (q : Int) = b.getD q 0 := rfl
   have e3 : rd_L1 (behind a b) ((p : Int) + 1) = seq (b.length + 1) fun r => (T a b (p + 1) r : Int) := rd_L1_seq _ (p := p + 1) (by omega) (by omega)
   have l1 : (seq (b.length + 1) fun r => (T a b (p + 1) r : Int)).length = b.length + 1 := seq_length _ _
   have e4 := rd_seq (n := b.length + 1) (fun r => (T a b (p + 1) r : Int)) (i := (q : Int) + 1) (p := q + 1) (by omega) (by omega)
   have t1 := T_le_left a b (p + 1) (q + 1)
   by_cases hhere : p = x ∧ q = y
   ·obtain ⟨rfl, rfl⟩ := hhere
    refine Ev.step (f := fun _ => some _) (fun k => ?_) (Ev.now _)
    simp (disch := omega) only [least_next.l1, if_pos, wr, e1, e2, e3, e4, l0, l1, if_pos he]
   ·have hno := hmin p q hp hq (by omega)
    have hnext : Ev (fun k => least_next.l1 k (behind a b) a b j w p ((q : Int) + 1)) (x, y, true) := by
     have := ih _ (by rw [← hd]; omega) p (q + 1) rfl hp (by omega) (by omega) (by omega)
     simpa using this
    by_cases hab : a.getD p 0 = b.getD q 0
    ·have hne : ¬ (((T a b (p + 1) (q + 1) : Nat) : Int) + 1 = (w : Int)) := fun h => hno ⟨by omega, hend, hab, by omega⟩
     refine Ev.step (fun k => ?_) hnext
     simp (disch := omega) only [least_next.l1, if_pos, wr, e1, e2, e3, e4, l0, l1, if_pos hab, if_neg hne]
    ·refine Ev.step (fun k => ?_) hnext
     simp (disch := omega) only [least_next.l1, if_pos, wr, e1, e2, if_neg hab]
  ·-- the next row
   have hpx : p < x := by omega
   have hm : (x - p) * (b.length + 2) = (x - (p + 1)) * (b.length + 2) + (b.length + 2) := by
    rw [show x - p = (x - (p + 1)) + 1 by omega, Nat.succ_mul]
   have hnext := ih ((x - (p + 1)) * (b.length + 2) + (b.length + 1 - j)) (by omega) (p + 1) j rfl (by omega) (Nat.le_refl _) (by omega) (by omega)
   refine Ev.step (f := fun k => least_next.l0 k (behind a b) a b j w ((p : Int) + 1)) (fun k => ?_) (Ev.step (fun k => ?_) hnext)
   ·rw [least_next.l1, if_neg (by omega), wr (by omega) (by omega)]
   ·rw [least_next.l0, if_pos (by omega)]
    simp
theorem least_next_some (a b : List Int) (ha : a.length ≤ 100000) (hb : b.length ≤ 100000) (i j x y : Nat) (hi : i ≤ a.length) (hj : j ≤ b.length) (hf : isFirst a b (T a b i j) i j x y) : Ev (fun k => least_next.f k (behind a b) a b i j) (x, y, true) := by
 have hT := hf.2.2.1.2.2.2
 have hx := hf.2.2.1.1
 have hy := hf.2.2.1.2.1
 have l0 : (behind a b).length = a.length + 1 := seq_length _ _
 have e3 : rd_L1 (behind a b) (i : Int) = seq (b.length + 1) fun r => (T a b i r : Int) := rd_L1_seq _ (p := i) (by omega) rfl
 have l1 : (seq (b.length + 1) fun r => (T a b i r : Int)).length = b.length + 1 := seq_length _ _
 have e4 := rd_seq (n := b.length + 1) (fun r => (T a b i r : Int)) (i := (j : Int)) (p := j) (by omega) rfl
 have t1 := T_le_left a b i j
 have := least_next_l a b ha hb (T a b i j) i j x y (by omega) hf _ i j rfl (Nat.le_refl _) (Nat.le_refl _) (by have := hf.1; have := hf.2.1; omega) hj
 refine Ev.congr (f := fun k => least_next.l0 k (behind a b) a b j (T a b i j : Nat) i) (fun k => ?_) (Ev.step (fun k => ?_) this)
 ·unfold least_next.f
  simp (disch := omega) only [if_pos, if_neg, e3, e4, l0, l1]
 ·rw [least_next.l0, if_pos (by have := hf.1; omega)]
theorem least_next_none (a b : List Int) (i j : Nat) (hi : i ≤ a.length) (hj : j ≤ b.length) (h : T a b i j = 0) (k : Nat) : least_next.f k (behind a b) a b i j = some (0, 0, false) := by
 have l0 : (behind a b).length = a.length + 1 := seq_length _ _
 have e3 : rd_L1 (behind a b) (i : Int) = seq (b.length + 1) fun r => (T a b i r : Int) := rd_L1_seq _ (p := i) (by omega) rfl
 have l1 : (seq (b.length + 1) fun r => (T a b i r : Int)).length = b.length + 1 := seq_length _ _
 have e4 := rd_seq (n := b.length + 1) (fun r => (T a b i r : Int)) (i := (j : Int)) (p := j) (by omega) rfl
 unfold least_next.f
 simp (disch := omega) only [if_pos, e3, e4, l0, l1]
theorem least_Of_l0 (a b : List Int) (ha : a.length ≤ 100000) (hb : b.length ≤ 100000) : ∀ (l : List S26) (i j : Nat) (acc : List S26), i ≤ a.length → j ≤ b.length → acc.length ≤ i → isLeast a b i j l →
  Ev (fun k => least_Of.l0 k a b (behind a b) acc i j) (acc ++ l)
 | [], i, j, acc, hi, hj, hacc, h => by
  refine Ev.step (f := fun _ => some _) (fun k => ?_) (Ev.now _)
  rw [least_Of.l0, least_next_none a b i j hi hj h, bs, ift, List.append_nil]
 | p :: l, i, j, acc, hi, hj, hacc, ⟨x, y, hp, hf, hl⟩ => by
  subst hp
  have hx := hf.2.2.1.1
  have hy := hf.2.2.1.2.1
  have ih := least_Of_l0 a b ha hb l (x + 1) (y + 1) (acc ++ [⟨x, y⟩]) (by omega) (by omega) (by simp; have := hf.1; omega) hl
  have hn := least_next_some a b ha hb i j x y hi hj hf
  rw [List.append_assoc, List.singleton_append] at ih
  refine Ev.step (fun k => rfl) (Ev.bind hn ?_)
  refine Ev.congr (fun k => ?_) ih
  rw [itt, if_pos (by omega), wr (x := (x : Int) + 1) (by omega) (by omega), wr (x := (y : Int) + 1) (by omega) (by omega)]
  simp
theorem least_Of_eq (a b : List Int) (ha : a.length ≤ 100000) (hb : b.length ≤ 100000) (l : List S26) (h : isLeast a b 0 0 l) : Ev (fun k => least_Of.f k a b) l := by
 unfold least_Of.f
 refine Ev.bind (grid_Behind_eq a b ha hb) ?_
 simpa using least_Of_l0 a b ha hb l 0 0 [] (by omega) (by omega) (by simp) h

theorem pair_ext {x y : S26} (h0 : x.f0 = y.f0) (h1 : x.f1 = y.f1) : x = y := by
 cases x; cases y; simp only at h0 h1; rw [h0, h1]
theorem tattingref1_SamePairs_l0 (a b : List S26) (ha : a.length ≤ 1000000) (hl : a.length = b.length) : ∀ (d k i : Nat), i + d = a.length → d < k →
  (a.drop i = b.drop i → tattingref1_SamePairs.l0 k a b i = some true) ∧ (a.drop i ≠ b.drop i → tattingref1_SamePairs.l0 k a b i = some false) := by
 intro d
 induction d with
 | zero =>
  intro k i hi hk
  obtain ⟨k, rfl⟩ : ∃ m, k = m + 1 := ⟨k - 1, by omega⟩
  rw [List.drop_eq_nil_of_le (by omega), List.drop_eq_nil_of_le (by omega), tattingref1_SamePairs.l0, if_neg (by omega)]
  simp
 | succ d ih =>
  intro k i hi hk
  obtain ⟨k, rfl⟩ : ∃ m, k = m + 1 := ⟨k - 1, by omega⟩
  obtain ⟨h1, h2⟩ := ih k (i + 1) (by omega) (by omega)
  simp only [Int.natCast_add, Int.cast_ofNat_Int] at h1 h2
  have e1 : rd_T26 a (i : Int) = a.getD i z26 := rfl
  have e2 : rd_T26 b (i : Int) = b.getD i z26 := rfl
  rw [drop_getD_pair (show i < a.length by omega), drop_getD_pair (show i < b.length by omega), tattingref1_SamePairs.l0, if_pos (by omega), if_pos (by omega), if_pos (by omega), e1, e2, wr (by omega) (by omega)]
  generalize a.getD i z26 = x at *
  generalize b.getD i z26 = y at *
  by_cases c0 : x.f0 = y.f0
  ·by_cases c1 : x.f1 = y.f1
   ·have e : x = y := pair_ext c0 c1
    have t : (!(x.f0 == y.f0) || !(x.f1 == y.f1)) = false := by rw [beq_iff_eq.2 c0, beq_iff_eq.2 c1]; rfl
    rw [t, ift]
    refine ⟨fun h => h1 (List.cons.inj h).2, fun h => h2 fun h' => h (by rw [e, h'])⟩
   ·have t : (!(x.f0 == y.f0) || !(x.f1 == y.f1)) = true := by rw [beq_eq_false_iff_ne.2 c1]; simp
    rw [t, itt]
    exact ⟨fun h => absurd (congrArg S26.f1 (List.cons.inj h).1) c1, fun _ => rfl⟩
  ·have t : (!(x.f0 == y.f0) || !(x.f1 == y.f1)) = true := by rw [beq_eq_false_iff_ne.2 c0]; simp
   rw [t, itt]
   exact ⟨fun h => absurd (congrArg S26.f0 (List.cons.inj h).1) c0, fun _ => rfl⟩
theorem tattingref1_SamePairs_same (a : List S26) (ha : a.length ≤ 1000000) (k : Nat) (hk : a.length < k) : tattingref1_SamePairs.f k a a = some true := by
 unfold tattingref1_SamePairs.f
 rw [if_pos rfl]
 exact (tattingref1_SamePairs_l0 a a ha rfl a.length k 0 (by omega) hk).1 rfl
def shift (i j : Int) (l : List S26) : List S26 := l.map fun p => ⟨p.f0 + i, p.f1 + j⟩
theorem shift_length (i j : Int) (l : List S26) : (shift i j l).length = l.length := by simp [shift]
theorem T_drop (a b : List Int) (i j p q : Nat) : T (a.drop i) (b.drop j) p q = T a b (i + p) (j + q) := by
 unfold T; rw [List.drop_drop, List.drop_drop]
theorem getD_drop (a : List Int) (i p : Nat) : (a.drop i).getD p 0 = a.getD (i + p) 0 := by
 simp [List.getD_eq_getElem?_getD]
theorem hit_drop (a b : List Int) (i j w x y : Nat) : hit (a.drop i) (b.drop j) w x y ↔ hit a b w (i + x) (j + y) := by
 unfold hit
 rw [getD_drop, getD_drop, T_drop, List.length_drop, List.length_drop, show i + (x + 1) = i + x + 1 by omega, show j + (y + 1) = j + y + 1 by omega]
 constructor
 ·rintro ⟨h1, h2, h3, h4⟩; exact ⟨by omega, by omega, h3, h4⟩
 ·rintro ⟨h1, h2, h3, h4⟩; exact ⟨by omega, by omega, h3, h4⟩
theorem isFirst_drop {a b : List Int} {i j w p q x y : Nat} (h : isFirst (a.drop i) (b.drop j) w p q x y) : isFirst a b w (i + p) (j + q) (i + x) (j + y) := by
 obtain ⟨h1, h2, h3, h4⟩ := h
 refine ⟨by omega, by omega, (hit_drop a b i j w x y).1 h3, fun x' y' g1 g2 g3 g4 => ?_⟩
 have := h4 (x' - i) (y' - j) (by omega) (by omega) (by omega)
 refine this ((hit_drop a b i j w _ _).2 ?_)
 rw [show i + (x' - i) = x' by omega, show j + (y' - j) = y' by omega]; exact g4
theorem isLeast_shift {a b : List Int} {i j : Nat} : ∀ {l : List S26} {p q : Nat}, isLeast (a.drop i) (b.drop j) p q l → isLeast a b (i + p) (j + q) (shift i j l)
 | [], p, q, h => by
  have h : T (a.drop i) (b.drop j) p q = 0 := h
  rw [T_drop] at h; exact h
 | r :: l, p, q, ⟨x, y, hr, hf, hl⟩ => by
  rw [T_drop] at hf
  refine ⟨i + x, j + y, ?_, isFirst_drop hf, ?_⟩
  ·rw [hr]
   have e1 : (x : Int) + i = ((i + x : Nat) : Int) := by omega
   have e2 : (y : Int) + j = ((j + y : Nat) : Int) := by omega
   rw [← e1, ← e2]
  ·have := isLeast_shift hl
   rw [show i + (x + 1) = i + x + 1 by omega, show j + (y + 1) = j + y + 1 by omega] at this
   exact this
/-- What stands behind a pair. -/
theorem isLeast_rest {a b : List Int} : ∀ {l : List S26} {i j : Nat}, isLeast a b i j l → ∀ k, k < l.length → ∃ x y : Nat, l.getD k z26 = ⟨x, y⟩ ∧ x < a.length ∧ y < b.length ∧ isLeast a b (x + 1) (y + 1) (l.drop (k + 1))
 | [], _, _, _, k, hk => by simp at hk
 | r :: l, i, j, ⟨x, y, hr, hf, hl⟩, 0, hk => ⟨x, y, by simpa using hr, hf.2.2.1.1, hf.2.2.1.2.1, by simpa using hl⟩
 | r :: l, i, j, ⟨x, y, hr, hf, hl⟩, k + 1, hk => by
  obtain ⟨x', y', h1, h2, h3, h4⟩ := isLeast_rest hl k (by simpa using hk)
  exact ⟨x', y', by simpa using h1, h2, h3, by simpa using h4⟩
theorem take_getD_pair {xs : List S26} {i : Nat} (h : i < xs.length) : xs.take (i + 1) = xs.take i ++ [xs.getD i z26] := by
 rw [List.take_succ_eq_append_getElem h]; simp [List.getD_eq_getElem?_getD, h]
def small (l : List S26) : Prop := ∀ p ∈ l, -1000000000 ≤ p.f0 ∧ p.f0 ≤ 1000000000 ∧ -1000000000 ≤ p.f1 ∧ p.f1 ≤ 1000000000
theorem tattingref7_Move_l0 (l : List S26) (hl : l.length ≤ 1000000) (hs : small l) (x y : Int) (hx : -1000000000 ≤ x ∧ x ≤ 1000000000) (hy : -1000000000 ≤ y ∧ y ≤ 1000000000) : ∀ (d k i : Nat), i + d = l.length → d < k →
  tattingref7_Move.l0 k l x y (shift x y (l.take i)) i = some (shift x y l) := by
 intro d
 induction d with
 | zero =>
  intro k i hi hk
  obtain ⟨k, rfl⟩ : ∃ m, k = m + 1 := ⟨k - 1, by omega⟩
  rw [tattingref7_Move.l0, if_neg (by omega), List.take_of_length_le (by omega)]
 | succ d ih =>
  intro k i hi hk
  obtain ⟨k, rfl⟩ : ∃ m, k = m + 1 := ⟨k - 1, by omega⟩
  have h4 := ih k (i + 1) (by omega) (by omega)
  have hlen : (shift x y (l.take i)).length ≤ l.length := by rw [shift_length]; simp; omega
  have e1 : rd_T26 l (i : Int) = l.getD i z26 := rfl
  have hm : l.getD i z26 ∈ l := by
   rw [List.getD_eq_getElem?_getD, List.getElem?_eq_getElem (by omega)]; exact List.getElem_mem _
  have hb := hs _ hm
  rw [take_getD_pair (show i < l.length by omega)] at h4
  rw [tattingref7_Move.l0, if_pos (by omega), if_pos (by omega), if_pos (by omega), e1, wr (by omega) (by omega), wr (by omega) (by omega), wr (by omega) (by omega)]
  unfold shift at h4 ⊢
  rw [List.map_append] at h4
  exact_mod_cast h4
theorem tattingref7_Move_eq (l : List S26) (hl : l.length ≤ 1000000) (hs : small l) (x y : Int) (hx : -1000000000 ≤ x ∧ x ≤ 1000000000) (hy : -1000000000 ≤ y ∧ y ≤ 1000000000) (k : Nat) (hk : l.length < k) : tattingref7_Move.f k l x y = some (shift x y l) := by
 unfold tattingref7_Move.f
 exact tattingref7_Move_l0 l hl hs x y hx hy l.length k 0 (by omega) hk
theorem isLeast_small {a b : List Int} (ha : a.length ≤ 1000000) (hb : b.length ≤ 1000000) : ∀ {l : List S26} {i j : Nat}, isLeast a b i j l → small l
 | [], _, _, _ => by intro p hp; simp at hp
 | r :: l, i, j, ⟨x, y, hr, hf, hl⟩ => by
  intro p hp
  rcases List.mem_cons.1 hp with rfl | hp
  ·rw [hr]
   have := hf.2.2.1.1
   have := hf.2.2.1.2.1
   simp only; omega
  ·exact isLeast_small ha hb hl p hp

theorem awake_ev : ∃ K, tattinglaw9_awake.f K = some true := ⟨400, by decide +kernel⟩
theorem law_LeastRest : tattinglaw9_LeastRest.Pure := by
 intro a b t _ _ _ _ _ _ ht
 have ht := u8_wf ht
 have haw : Ev tattinglaw9_awake.f true := by
  obtain ⟨K, h⟩ := awake_ev
  exact Ev.of tattinglaw9_awake.mono h
 refine Ev.rounds (g := fun K => tattinglaw9_LeastRest.f K a b t) ?_
 unfold tattinglaw9_LeastRest.f
 refine Ev.bind haw ?_
 simp only [itt, ifT]
 by_cases ha : (a.length : Int) > 30
 ·refine Ev.step (f := fun _ => some true) (fun K => ?_) (Ev.now _)
  rw [if_pos ha, tattinglaw9_LeastRest.j0, itt]
 by_cases hb : (b.length : Int) > 30
 ·refine Ev.step (f := fun _ => some true) (fun K => ?_) (Ev.now _)
  rw [if_neg ha, decide_eq_true hb, tattinglaw9_LeastRest.j0, itt]
 simp only [if_neg ha, decide_eq_false hb]
 have la := few_length a 3
 have lb := few_length b 3
 have fa := fun k hk => tattingref1_Few_eq a 3 (by omega) (by omega) (by omega) k hk
 have fb := fun k hk => tattingref1_Few_eq b 3 (by omega) (by omega) (by omega) k hk
 generalize few a 3 = x at *
 generalize few b 3 = y at *
 obtain ⟨l, hl⟩ := isLeast_ex x y _ 0 0 rfl
 have hlen := isLeast_len hl
 have t1 := T_le_left x y 0 0
 obtain ⟨K1, h1⟩ := tattingref7_Len_eq x y (by omega) (by omega)
 obtain ⟨K2, h2⟩ := least_Of_eq x y (by omega) (by omega) l hl
 by_cases h0 : l.length = 0
 ·refine ⟨1000 + K1 + K2, fun K hK => ?_⟩
  obtain ⟨K, rfl⟩ : ∃ m, K = m + 1 := ⟨K - 1, by omega⟩
  have e1 : tattingref7_Len.f K x y = some _ := h1 K (by omega)
  have e2 : least_Of.f K x y = some _ := h2 K (by omega)
  have e3 : lcs x y = 0 := by rw [← T_zero]; omega
  have f1 := fa K (by omega)
  have f2 := fb K (by omega)
  show tattinglaw9_LeastRest.j0 (K + 1) a b t false = some true
  rw [tattinglaw9_LeastRest.j0, ift, f1, bs, f2, bs, e2, bs, if_pos (by omega), e1, bs, e3]
  rfl
 ·obtain ⟨n, hn⟩ := Int.eq_ofNat_of_zero_le ht.1
  have hmod : Int.tmod (wrap64 t) (l.length : Int) = ((n % l.length : Nat) : Int) := by
   rw [hn, wr (by omega) (by omega)]; exact tmod_nat n l.length
  have hq := Nat.mod_lt n (show 0 < l.length by omega)
  generalize n % l.length = q at *
  obtain ⟨i, j, g1, g2, g3, g4⟩ := isLeast_rest hl q hq
  obtain ⟨m, hm⟩ := isLeast_ex (x.drop (i + 1)) (y.drop (j + 1)) _ 0 0 rfl
  have hsh := isLeast_same g4 (isLeast_shift (i := i + 1) (j := j + 1) hm)
  have hdx : (x.drop (i + 1)).length ≤ x.length := by simp
  have hdy : (y.drop (j + 1)).length ≤ y.length := by simp
  have hml := isLeast_len hm
  have t2 := T_le_left (x.drop (i + 1)) (y.drop (j + 1)) 0 0
  obtain ⟨K3, h3⟩ := least_Of_eq (x.drop (i + 1)) (y.drop (j + 1)) (by omega) (by omega) m hm
  refine ⟨1000 + K1 + K2 + K3, fun K hK => ?_⟩
  obtain ⟨K, rfl⟩ : ∃ z, K = z + 1 + 1 := ⟨K - 2, by omega⟩
  have e2 : least_Of.f (K + 1) x y = some _ := h2 (K + 1) (by omega)
  have e3 : least_Of.f K (x.drop (i + 1)) (y.drop (j + 1)) = some _ := h3 K (by omega)
  have e4 := tattingref7_Move_eq m (by omega) (isLeast_small (by omega) (by omega) hm) ((i + 1 : Nat) : Int) ((j + 1 : Nat) : Int) (by omega) (by omega) K (by omega)
  rw [← hsh] at e4
  have hld : (l.drop (q + 1)).length ≤ l.length := by simp
  have e5 := tattingref1_SamePairs_same (l.drop (q + 1)) (by omega) K (by omega)
  have f1 := fa (K + 1) (by omega)
  have f2 := fb (K + 1) (by omega)
  have e6 : rd_T26 l (q : Int) = ⟨i, j⟩ := g1
  have i1 : ((i + 1 : Nat) : Int) = (i : Int) + 1 := by omega
  have j1 : ((j + 1 : Nat) : Int) = (j : Int) + 1 := by omega
  have i2 : ((i : Int) + 1).toNat = i + 1 := by omega
  have j2 : ((j : Int) + 1).toNat = j + 1 := by omega
  have q2 : ((q : Int) + 1).toNat = q + 1 := by omega
  rw [i1, j1] at e4
  show tattinglaw9_LeastRest.j0 (K + 1 + 1) a b t false = some true
  rw [tattinglaw9_LeastRest.j0, ift, f1, bs, f2, bs, e2, bs, if_neg (by omega), hmod, if_pos (by omega), if_pos (by omega)]
  simp only [e6]
  rw [wr (x := (i : Int) + 1) (by omega) (by omega), wr (x := (j : Int) + 1) (by omega) (by omega), if_neg (by omega), if_neg (by omega), if_neg (by omega), decide_eq_false (by omega), tattinglaw9_LeastRest.j1, ift,
   wr (x := (q : Int) + 1) (by omega) (by omega), if_pos (by omega), if_pos (by omega), if_pos (by omega), if_pos (by omega), if_pos (by omega), if_pos (by omega), i2, j2, q2, e3, bs, e4, bs, e5, bs]


theorem LeastRest : tattinglaw9_LeastRest.Pure := law_LeastRest

end Go.Proofs.Ytmkelmacllkbeaa.Pure
namespace Go.Proofs.Ytmkelmacllkbeaa.PrintWords
/-- The row's word under the name by which the row calls it. -/
abbrev sized_ints := @Go.Proofs.YtmkelmacllkbeaaW.PrintWords.sized_ints
end Go.Proofs.Ytmkelmacllkbeaa.PrintWords
