/- Whichever longest list is handed in (by halves, from the back, turned), the least list comes out; no conditions. -/
import Derived.Test.YtdegajidkboknaaPCanonAnyx13
import Derived.Test.YtdegajidkboknaaWSized
namespace Go.Proofs.Ytdegajidkboknaa.Pure
open Go.RowKit Go.Proofs.Ytdegajidkboknaa.PCanonAny Go.Proofs.YtdegajidkboknaaW.PrintWords Go.Proofs.YtdegajidkboknaaW.PrintLast Go.Proofs.YtdegajidkboknaaW.PrintMore
set_option linter.unusedVariables false
set_option linter.unusedSimpArgs false
/-! Words for the pure side: whole numbers that do not wrap, reads of lists. -/
theorem wr {x : Int} (h : -9223372036854775808 ≤ x) (h' : x < 9223372036854775808) : wrap64 x = x := by unfold wrap64; omega
theorem rd_nat (xs : List Int) (n : Nat) : rd xs (n : Int) = xs.getD n 0 := rfl
theorem rd_at {xs : List Int} {i : Int} {n : Nat} (h : i = (n : Int)) : rd xs i = xs.getD n 0 := by subst h; rfl
theorem drop_getD {xs : List Int} {i : Nat} (h : i < xs.length) : xs.drop i = xs.getD i 0 :: xs.drop (i + 1) := by
 rw [List.drop_eq_getElem_cons h]; simp [List.getD_eq_getElem?_getD, h]
theorem take_getD {xs : List Int} {i : Nat} (h : i < xs.length) : xs.take (i + 1) = xs.take i ++ [xs.getD i 0] := by
 rw [List.take_succ_eq_append_getElem h]; simp [List.getD_eq_getElem?_getD, h]

theorem lz_bind {α β : Type} {a a' : Option α} {f : α → Option β} (h : a = a') : a.bind f = a'.bind f := by rw [h]
theorem lz_ite {α : Type} {c c' : Prop} [s : Decidable c] [s' : Decidable c'] {t e : α} (h : c = c') : ite c t e = ite c' t e := by
 subst h; rw [Subsingleton.elim s s']
attribute [local congr] lz_bind lz_ite
theorem bs {α β : Type} (a : α) (f : α → Option β) : (some a).bind f = f a := by simp
theorem itt {α : Type} (t e : α) : (if (true = true) then t else e) = t := by simp
theorem ift {α : Type} (t e : α) : (if (false = true) then t else e) = e := by simp
theorem ifT {α : Type} (t e : α) : (if True then t else e) = t := by simp
theorem tmod_nat (x n : Nat) : Int.tmod (x : Int) (n : Int) = ((x % n : Nat) : Int) := by
 rw [Int.tmod_eq_emod_of_nonneg (by omega)]; exact (Int.natCast_emod _ _).symm
/-- A number within a list's places and its end. -/
theorem place (x : Int) (n : Nat) (h : 0 ≤ x ∧ x < 256) (hn : n ≤ 1000000) : ∃ p : Nat, p ≤ n ∧ Int.tmod (wrap64 x) (wrap64 ((n : Int) + 1)) = p := by
 obtain ⟨y, rfl⟩ := Int.eq_ofNat_of_zero_le h.1
 rw [wr (by omega) (by omega), wr (by omega) (by omega)]
 refine ⟨y % (n + 1), by have := Nat.mod_lt y (show 0 < n + 1 by omega); omega, ?_⟩
 have := tmod_nat y (n + 1)
 simpa using this

/-! The longest common subsequence of two lists of whole numbers: no program in sight. -/
def lcs : List Int → List Int → Nat
 | [], _ => 0
 | _ :: _, [] => 0
 | a :: xt, b :: yt => if a = b then lcs xt yt + 1 else max (lcs xt (b :: yt)) (lcs (a :: xt) yt)
termination_by xs ys => xs.length + ys.length

@[simp] theorem lcs_nil_left (ys : List Int) : lcs [] ys = 0 := by cases ys <;> simp [lcs]
@[simp] theorem lcs_nil_right (xs : List Int) : lcs xs [] = 0 := by cases xs <;> simp [lcs]
theorem lcs_cons (a b : Int) (xt yt : List Int) : lcs (a :: xt) (b :: yt) = if a = b then lcs xt yt + 1 else max (lcs xt (b :: yt)) (lcs (a :: xt) yt) := by
 rw [lcs]

theorem lcs_ub (xs ys : List Int) : ∀ s : List Int, s.Sublist xs → s.Sublist ys → s.length ≤ lcs xs ys := by
 induction xs, ys using lcs.induct with
 | case1 ys => intro s h _; simp at h; subst h; simp
 | case2 a xt => intro s _ h; simp at h; subst h; simp
 | case3 xt b yt ih =>
  intro s h1 h2
  rw [lcs_cons, if_pos rfl]
  cases s with
  | nil => simp
  | cons c s =>
   have h1' : s.Sublist xt := by
    cases h1 with
    | cons _ h => exact (List.sublist_cons_self c s).trans h
    | cons_cons _ h => exact h
   have h2' : s.Sublist yt := by
    cases h2 with
    | cons _ h => exact (List.sublist_cons_self c s).trans h
    | cons_cons _ h => exact h
   have := ih s h1' h2'
   simp; omega
 | case4 a xt b yt hne ih1 ih2 =>
  intro s h1 h2
  rw [lcs_cons, if_neg hne]
  cases s with
  | nil => simp
  | cons c s =>
   by_cases hc : c = a
   ·subst hc
    have h2' : (c :: s).Sublist yt := by
     cases h2 with
     | cons _ h => exact h
     | cons_cons _ h => exact absurd rfl hne
    have := ih2 _ h1 h2'
    omega
   ·have h1' : (c :: s).Sublist xt := by
     cases h1 with
     | cons _ h => exact h
     | cons_cons _ h => exact absurd rfl hc
    have := ih1 _ h1' h2
    omega

theorem lcs_ex (xs ys : List Int) : ∃ s : List Int, s.Sublist xs ∧ s.Sublist ys ∧ s.length = lcs xs ys := by
 induction xs, ys using lcs.induct with
 | case1 ys => exact ⟨[], by simp⟩
 | case2 a xt => exact ⟨[], by simp⟩
 | case3 xt b yt ih =>
  obtain ⟨s, h1, h2, h3⟩ := ih
  exact ⟨b :: s, h1.cons_cons b, h2.cons_cons b, by rw [lcs_cons, if_pos rfl]; simp [h3]⟩
 | case4 a xt b yt hne ih1 ih2 =>
  rw [lcs_cons, if_neg hne]
  by_cases h : lcs (a :: xt) yt ≤ lcs xt (b :: yt)
  ·obtain ⟨s, h1, h2, h3⟩ := ih1
   exact ⟨s, h1.cons a, h2, by omega⟩
  ·obtain ⟨s, h1, h2, h3⟩ := ih2
   exact ⟨s, h1, h2.cons b, by omega⟩

theorem lcs_unique {xs ys : List Int} {n : Nat} (h : ∃ s : List Int, s.Sublist xs ∧ s.Sublist ys ∧ s.length = n) (h' : ∀ s : List Int, s.Sublist xs → s.Sublist ys → s.length ≤ n) : lcs xs ys = n := by
 obtain ⟨s, h1, h2, h3⟩ := h
 obtain ⟨t, h4, h5, h6⟩ := lcs_ex xs ys
 have := lcs_ub xs ys s h1 h2
 have := h' t h4 h5
 omega

theorem lcs_comm (xs ys : List Int) : lcs xs ys = lcs ys xs := by
 obtain ⟨s, h1, h2, h3⟩ := lcs_ex ys xs
 exact lcs_unique ⟨s, h2, h1, h3⟩ fun t a b => lcs_ub ys xs t b a

theorem lcs_reverse (xs ys : List Int) : lcs xs.reverse ys.reverse = lcs xs ys := by
 obtain ⟨s, h1, h2, h3⟩ := lcs_ex xs ys
 refine lcs_unique ⟨s.reverse, h1.reverse, h2.reverse, by simp [h3]⟩ fun t a b => ?_
 have := lcs_ub xs ys t.reverse (by simpa using a.reverse) (by simpa using b.reverse)
 simpa using this

theorem lcs_mono {xs xs' ys ys' : List Int} (h : xs.Sublist xs') (h' : ys.Sublist ys') : lcs xs ys ≤ lcs xs' ys' := by
 obtain ⟨s, h1, h2, h3⟩ := lcs_ex xs ys
 have := lcs_ub xs' ys' s (h1.trans h) (h2.trans h')
 omega

theorem lcs_le_left (xs ys : List Int) : lcs xs ys ≤ xs.length := by
 obtain ⟨s, h1, _, h3⟩ := lcs_ex xs ys
 have := h1.length_le
 omega
/-- Cut both lists anywhere: never more together. -/
theorem lcs_append_ge (xs xs' ys ys' : List Int) : lcs xs ys + lcs xs' ys' ≤ lcs (xs ++ xs') (ys ++ ys') := by
 obtain ⟨s, h1, h2, h3⟩ := lcs_ex xs ys
 obtain ⟨t, h4, h5, h6⟩ := lcs_ex xs' ys'
 have := lcs_ub (xs ++ xs') (ys ++ ys') (s ++ t) (h1.append h4) (h2.append h5)
 simp at this; omega

theorem sublist_append_split {s xs ys : List Int} (h : s.Sublist (xs ++ ys)) : ∃ s1 s2, s = s1 ++ s2 ∧ s1.Sublist xs ∧ s2.Sublist ys := by
 obtain ⟨l1, l2, rfl, h1, h2⟩ := List.sublist_append_iff.1 h
 exact ⟨l1, l2, rfl, h1, h2⟩

/-- Cut the first list: somewhere in the second one both together are just xt much. -/
theorem lcs_cut (xs xs' ys : List Int) : ∃ j, j ≤ ys.length ∧ lcs (xs ++ xs') ys = lcs xs (ys.take j) + lcs xs' (ys.drop j) := by
 obtain ⟨s, h1, h2, h3⟩ := lcs_ex (xs ++ xs') ys
 obtain ⟨s1, s2, rfl, h4, h5⟩ := sublist_append_split h1
 obtain ⟨l1, l2, rfl, h6, h7⟩ := List.append_sublist_iff.1 h2
 refine ⟨l1.length, by simp, ?_⟩
 have a1 := lcs_ub xs l1 s1 h4 h6
 have a2 := lcs_ub xs' l2 s2 h5 h7
 have a3 := lcs_append_ge xs xs' l1 l2
 simp only [List.take_left, List.drop_left]
 simp at h3; omega

/-! Lists told place by place. -/
def seq {α : Type} (n : Nat) (F : Nat → α) : List α := (List.range n).map F
def upd {α : Type} (F : Nat → α) (i : Nat) (v : α) : Nat → α := fun j => if j = i then v else F j
theorem upd_same {α : Type} (F : Nat → α) (i : Nat) (v : α) : upd F i v i = v := by simp [upd]
theorem upd_ne {α : Type} (F : Nat → α) {i j : Nat} (v : α) (h : j ≠ i) : upd F i v j = F j := by simp [upd, h]
theorem seq_length {α : Type} (n : Nat) (F : Nat → α) : (seq n F).length = n := by simp [seq]
theorem seq_getD {α : Type} {n : Nat} (F : Nat → α) {i : Nat} (h : i < n) (d : α) : (seq n F).getD i d = F i := by simp [seq, h, List.getD_eq_getElem?_getD]
theorem seq_getElem {α : Type} {n : Nat} (F : Nat → α) {i : Nat} (h : i < (seq n F).length) : (seq n F)[i] = F i := by simp [seq]
theorem seq_ext {α : Type} {n : Nat} {F G : Nat → α} (h : ∀ i, i < n → F i = G i) : seq n F = seq n G := by
 unfold seq; exact List.map_congr_left fun i hi => h i (List.mem_range.1 hi)
theorem seq_set {α : Type} {n : Nat} (F : Nat → α) (i : Nat) (v : α) : (seq n F).set i v = seq n (upd F i v) := by
 apply List.ext_getElem
 ·simp [seq_length]
 ·intro j h1 h2
  rw [List.getElem_set, seq_getElem, seq_getElem]
  unfold upd
  by_cases h : i = j
  ·rw [if_pos h, if_pos h.symm]
  ·rw [if_neg h, if_neg (fun e => h e.symm)]
theorem seq_const {α : Type} (n : Nat) (v : α) : List.replicate n v = seq n (fun _ => v) := by
 apply List.ext_getElem
 ·simp [seq_length]
 ·intro j h1 h2; simp [seq]
theorem rd_seq {n : Nat} (F : Nat → Int) {i : Int} {p : Nat} (h : p < n) (e : i = (p : Int)) : rd (seq n F) i = F p := by
 subst e; rw [rd_nat, seq_getD F h]

theorem rd_L2_seq {n : Nat} (F : Nat → List Int) {i : Int} {p : Nat} (h : p < n) (e : i = (p : Int)) : rd_L2 (seq n F) i = F p := by
 subst e; unfold rd_L2; rw [Int.toNat_natCast, seq_getD F h]

/-- What both lists have in common behind two places. -/
def T (a b : List Int) (i j : Nat) : Nat := lcs (a.drop i) (b.drop j)
theorem T_out_left {a b : List Int} {i j : Nat} (h : a.length ≤ i) : T a b i j = 0 := by unfold T; rw [List.drop_eq_nil_of_le h]; simp
theorem T_out_right {a b : List Int} {i j : Nat} (h : b.length ≤ j) : T a b i j = 0 := by unfold T; rw [List.drop_eq_nil_of_le h]; simp
theorem T_step {a b : List Int} {i j : Nat} (h : i < a.length) (h' : j < b.length) : T a b i j = if a.getD i 0 = b.getD j 0 then T a b (i + 1) (j + 1) + 1 else max (T a b (i + 1) j) (T a b i (j + 1)) := by
 unfold T; rw [drop_getD h, drop_getD h', lcs_cons]
theorem T_le_left (a b : List Int) (i j : Nat) : T a b i j ≤ a.length - i := by have := lcs_le_left (a.drop i) (b.drop j); unfold T; simpa using this
theorem T_zero (a b : List Int) : T a b 0 0 = lcs a b := rfl
/-- The whole table. -/
def behind (a b : List Int) : List (List Int) := seq (a.length + 1) fun i => seq (b.length + 1) fun j => (T a b i j : Int)

/-- What both lists have in common ahead of two places. -/
def H (a b : List Int) (i j : Nat) : Nat := lcs (a.take i) (b.take j)
theorem H_le_left (a b : List Int) (i j : Nat) : H a b i j ≤ a.length := by have := lcs_le_left (a.take i) (b.take j); unfold H; simp at this; omega
def ahead (a b : List Int) : List (List Int) := seq (a.length + 1) fun i => seq (b.length + 1) fun j => (H a b i j : Int)

theorem grid_table_l0 (n m : Nat) (hn : n ≤ 100000) (hm : m ≤ 100000) : ∀ (d i : Nat) (F : Nat → List Int), i + d = n + 1 → (∀ j, j < i → F j = seq (m + 1) fun _ => 0) →
  Ev (fun k => grid_table.l0 k m (seq (n + 1) F) ((n + 1 : Nat) : Int) i) (seq (n + 1) fun _ => seq (m + 1) fun _ => 0) := by
 intro d
 induction d with
 | zero =>
  intro i F hi hF
  refine Ev.step (f := fun _ => some (seq (n + 1) F)) (fun k => ?_) ?_
  ·simp (disch := omega) only [grid_table.l0, if_neg]
  ·rw [seq_ext (G := fun _ => seq (m + 1) fun _ => (0 : Int)) (fun j hj => hF j (by omega))]
   exact Ev.now _
 | succ d ih =>
  intro i F hi hF
  refine Ev.step (fun k => ?_) (ih (i + 1) (upd F i (seq (m + 1) fun _ => 0)) (by omega) ?_)
  ·have hl := seq_length (n + 1) F
   have e : (((m : Int) + 1)).toNat = m + 1 := by omega
   simp (disch := omega) only [grid_table.l0, wr, if_pos, e, seq_const, hl, Int.toNat_natCast, seq_set]
   simp only [Int.natCast_add, Int.cast_ofNat_Int]
  ·intro j hj
   by_cases h : j = i
   ·subst h; rw [upd_same]
   ·rw [upd_ne _ _ h]; exact hF j (by omega)
theorem grid_table_eq (n m : Nat) (hn : n ≤ 100000) (hm : m ≤ 100000) : Ev (fun k => grid_table.f k n m) (seq (n + 1) fun _ => seq (m + 1) fun _ => 0) := by
 refine Ev.congr (fun k => ?_) (grid_table_l0 n m hn hm (n + 1) 0 (fun _ => []) (by omega) (by omega))
 have e : (((n : Int) + 1)).toNat = n + 1 := by omega
 have hl := seq_length (n + 1) (fun _ => ([] : List Int))
 unfold grid_table.f
 simp (disch := omega) only [wr, if_pos, e, bs, seq_const, hl]
 rfl

theorem grid_Behind_l1 (a b : List Int) (ha : a.length ≤ 100000) (hb : b.length ≤ 100000) (r : List (List Int)) (i : Nat) (hi : i < a.length) : ∀ (j : Nat) (f : Nat → Nat → Int), j ≤ b.length →
  (∀ p q, i < p → p ≤ a.length → q ≤ b.length → f p q = T a b p q) → (∀ q, j ≤ q → q ≤ b.length → f i q = T a b i q) → (∀ p, p < i → f p b.length = 0) →
  (∀ g : Nat → Nat → Int, (∀ p q, i ≤ p → p ≤ a.length → q ≤ b.length → g p q = T a b p q) → (∀ p, p < i → g p b.length = 0) →
   Ev (fun k => grid_Behind.l0 k a b (seq (a.length + 1) fun p => seq (b.length + 1) (g p)) ((i : Int) - 1)) r) →
  Ev (fun k => grid_Behind.l1 k a b (seq (a.length + 1) fun p => seq (b.length + 1) (f p)) i ((j : Int) - 1)) r := by
 intro j
 induction j with
 | zero =>
  intro f hj h1 h2 h3 hr
  refine Ev.step (fun k => ?_) (hr f (fun p q hp hp' hq => ?_) h3)
  ·simp (disch := omega) only [grid_Behind.l1, wr, if_neg]
  ·by_cases h : p = i
   ·subst h; exact h2 q (by omega) hq
   ·exact h1 p q (by omega) hp' hq
 | succ j ih =>
  intro f hj h1 h2 h3 hr
  have l0 := seq_length (a.length + 1) fun p => seq (b.length + 1) (f p)
  have l1 : ∀ p, (seq (b.length + 1) (f p)).length = b.length + 1 := fun p => seq_length _ _
  have e1 : rd a (i : Int) = a.getD i 0 := rfl
  have e2 : rd b ((((j + 1 : Nat) : Int)) - 1) = b.getD j 0 := rd_at (by omega)
  have e3 := rd_L2_seq (n := a.length + 1) (fun p => seq (b.length + 1) (f p)) (i := (i : Int)) (p := i) (by omega) rfl
  have e4 := rd_L2_seq (n := a.length + 1) (fun p => seq (b.length + 1) (f p)) (i := (i : Int) + 1) (p := i + 1) (by omega) (by omega)
  have e5 := rd_seq (n := b.length + 1) (f (i + 1)) (i := (((j + 1 : Nat) : Int)) - 1 + 1) (p := j + 1) (by omega) (by omega)
  have e6 := rd_seq (n := b.length + 1) (f (i + 1)) (i := (((j + 1 : Nat) : Int)) - 1) (p := j) (by omega) (by omega)
  have e7 := rd_seq (n := b.length + 1) (f i) (i := (((j + 1 : Nat) : Int)) - 1 + 1) (p := j + 1) (by omega) (by omega)
  have hs := T_step (a := a) (b := b) (i := i) (j := j) hi (by omega)
  have t1 := T_le_left a b (i + 1) (j + 1)
  have v1 := h1 (i + 1) (j + 1) (by omega) (by omega) (by omega)
  have v2 := h1 (i + 1) j (by omega) (by omega) (by omega)
  have v3 := h2 (j + 1) (by omega) (by omega)
  have key : ∀ v : Int, v = T a b i j → Ev (fun k => grid_Behind.l1 k a b ((seq (a.length + 1) fun p => seq (b.length + 1) (f p)).set (i : Int).toNat ((seq (b.length + 1) (f i)).set ((((j + 1 : Nat) : Int)) - 1).toNat v)) i ((((j + 1 : Nat) : Int)) - 1 - 1)) r := by
   intro v hv
   rw [show ((((j + 1 : Nat) : Int)) - 1).toNat = j by omega, show ((((j + 1 : Nat) : Int)) - 1 - 1) = (j : Int) - 1 by omega, Int.toNat_natCast, seq_set, seq_set]
   have hg := ih (fun p => upd (fun p => f p) i (upd (f i) j v) p) (by omega) (fun p q hp hp' hq => by
    show upd (fun p => f p) i (upd (f i) j v) p q = _
    rw [upd_ne _ _ (by omega)]; exact h1 p q hp hp' hq) (fun q hq hq' => by
    show upd (fun p => f p) i (upd (f i) j v) i q = _
    rw [upd_same]
    by_cases h : q = j
    ·subst h; rw [upd_same, hv]
    ·rw [upd_ne _ _ h]; exact h2 q (by omega) hq') (fun p hp => by
    show upd (fun p => f p) i (upd (f i) j v) p b.length = _
    rw [upd_ne _ _ (by omega)]; exact h3 p hp) hr
   have e : (seq (a.length + 1) fun p => seq (b.length + 1) (upd (fun p => f p) i (upd (f i) j v) p)) = seq (a.length + 1) (upd (fun p => seq (b.length + 1) (f p)) i (seq (b.length + 1) (upd (f i) j v))) := by
    refine seq_ext fun p hp => ?_
    by_cases h : p = i
    ·subst h; rw [upd_same, upd_same]
    ·rw [upd_ne _ _ h, upd_ne _ _ h]
   rw [← e]; exact hg
  by_cases hab : a.getD i 0 = b.getD j 0
  ·refine Ev.step (fun k => ?_) (key (f (i + 1) (j + 1) + 1) ?_)
   ·simp (disch := omega) only [grid_Behind.l1, wr, if_pos, e1, e2, e3, e4, e5, l0, l1, if_pos hab]
   ·rw [hs, if_pos hab, v1]; simp
  ·refine Ev.step (fun k => ?_) (key (mx (f (i + 1) j) (f i (j + 1))) ?_)
   ·simp (disch := omega) only [grid_Behind.l1, wr, if_pos, e1, e2, e3, e4, e6, e7, l0, l1]
    simp (disch := omega) only [if_neg hab, if_pos, wr]
   ·rw [hs, if_neg hab, v2, v3]; unfold mx; omega
theorem grid_Behind_l0 (a b : List Int) (ha : a.length ≤ 100000) (hb : b.length ≤ 100000) : ∀ (i : Nat) (f : Nat → Nat → Int), i ≤ a.length →
  (∀ p q, i ≤ p → p ≤ a.length → q ≤ b.length → f p q = T a b p q) → (∀ p, p < i → f p b.length = 0) →
  Ev (fun k => grid_Behind.l0 k a b (seq (a.length + 1) fun p => seq (b.length + 1) (f p)) ((i : Int) - 1)) (behind a b) := by
 intro i
 induction i with
 | zero =>
  intro f hi h1 h2
  refine Ev.step (f := fun _ => some _) (fun k => ?_) (Ev.now _)
  simp (disch := omega) only [grid_Behind.l0, if_neg]
  congr 1
  exact seq_ext fun p hp => seq_ext fun q hq => h1 p q (by omega) (by omega) (by omega)
 | succ i ih =>
  intro f hi h1 h2
  refine Ev.step (fun k => ?_) (grid_Behind_l1 a b ha hb (behind a b) i (by omega) b.length f (by omega) (fun p q hp hp' hq => h1 p q (by omega) hp' hq) (fun q hq hq' => ?_) (fun p hp => h2 p (by omega)) (fun g g1 g2 => ih g (by omega) g1 g2))
  ·simp (disch := omega) only [grid_Behind.l0, wr, if_pos]
   rw [show ((((i + 1 : Nat) : Int)) - 1) = (i : Int) by omega]
  ·obtain rfl : q = b.length := by omega
   rw [h2 i (by omega), T_out_right (by omega)]; rfl
theorem grid_Behind_eq (a b : List Int) (ha : a.length ≤ 100000) (hb : b.length ≤ 100000) : Ev (fun k => grid_Behind.f k a b) (behind a b) := by
 unfold grid_Behind.f
 refine Ev.bind (grid_table_eq a.length b.length ha hb) ?_
 have := grid_Behind_l0 a b ha hb a.length (fun _ _ => 0) (by omega) (fun p q hp hp' hq => by rw [T_out_left (by omega)]; rfl) (fun _ _ => rfl)
 refine Ev.congr (fun k => ?_) this
 rw [wr (by omega) (by omega)]

/-- Pairs that rise in both, from behind two places on, each of alike numbers. -/
def okPair (a b : List Int) (li lj : Int) (x : S28) : Bool := decide (0 ≤ x.f0) && decide (x.f0 < a.length) && decide (0 ≤ x.f1) && decide (x.f1 < b.length) && decide (rd a x.f0 = rd b x.f1) && decide (li < x.f0) && decide (lj < x.f1)
def good (a b : List Int) : Int → Int → List S28 → Bool
 | _, _, [] => true
 | li, lj, x :: l => okPair a b li lj x && good a b x.f0 x.f1 l
theorem okPair_iff (a b : List Int) (li lj : Int) (x : S28) : okPair a b li lj x = true ↔ 0 ≤ x.f0 ∧ x.f0 < a.length ∧ 0 ≤ x.f1 ∧ x.f1 < b.length ∧ rd a x.f0 = rd b x.f1 ∧ li < x.f0 ∧ lj < x.f1 := by
 simp [okPair, and_assoc]
theorem good_cons (a b : List Int) (li lj : Int) (x : S28) (l : List S28) : good a b li lj (x :: l) = true ↔ okPair a b li lj x = true ∧ good a b x.f0 x.f1 l = true := by simp [good]
theorem good_weaken {a b : List Int} {li lj li' lj' : Int} (hi : li' ≤ li) (hj : lj' ≤ lj) : ∀ {l : List S28}, good a b li lj l = true → good a b li' lj' l = true
 | [], _ => rfl
 | x :: l, h => by
  rw [good_cons, okPair_iff] at h ⊢
  obtain ⟨⟨h1, h2, h3, h4, h5, h6, h7⟩, h8⟩ := h
  exact ⟨⟨h1, h2, h3, h4, h5, by omega, by omega⟩, h8⟩
/-- A good list is no longer than what both have in common behind. -/
theorem good_len {a b : List Int} : ∀ (l : List S28) (i j : Nat), good a b ((i : Int) - 1) ((j : Int) - 1) l = true → l.length ≤ T a b i j
 | [], i, j, _ => Nat.zero_le _
 | x :: l, i, j, h => by
  rw [good_cons, okPair_iff] at h
  obtain ⟨⟨h1, h2, h3, h4, h5, h6, h7⟩, h8⟩ := h
  obtain ⟨p, hp⟩ := Int.eq_ofNat_of_zero_le h1
  obtain ⟨q, hq⟩ := Int.eq_ofNat_of_zero_le h3
  have ih := good_len l (p + 1) (q + 1) (by rw [hp, hq] at h8; simpa using h8)
  rw [hp, hq, rd_nat, rd_nat] at h5
  have hs := T_step (a := a) (b := b) (i := p) (j := q) (by omega) (by omega)
  rw [if_pos h5] at hs
  have e1 : T a b p q ≤ T a b i q := by
   unfold T; refine lcs_mono ?_ (List.Sublist.refl _)
   rw [show p = i + (p - i) by omega, ← List.drop_drop]; exact List.drop_sublist _ _
  have e2 : T a b i q ≤ T a b i j := by
   unfold T; refine lcs_mono (List.Sublist.refl _) ?_
   rw [show q = j + (q - j) by omega, ← List.drop_drop]; exact List.drop_sublist _ _
  simp only [List.length_cons]; omega
theorem drop_getD_pair {xs : List S28} {i : Nat} (h : i < xs.length) : xs.drop i = xs.getD i z28 :: xs.drop (i + 1) := by
 rw [List.drop_eq_getElem_cons h]; simp [List.getD_eq_getElem?_getD, h]

def few (a : List Int) (n : Int) : List Int := a.map (· % n)
theorem few_length (a : List Int) (n : Int) : (few a n).length = a.length := by simp [few]
theorem tmod_few (x n : Int) (hn : 0 < n) : (if Int.tmod x n < 0 then Int.tmod x n + n else Int.tmod x n) = x % n := by
 rw [Int.tmod_eq_emod]
 have h1 := Int.emod_nonneg x (show n ≠ 0 by omega)
 have h2 := Int.emod_lt_of_pos x hn
 have h3 : (n.natAbs : Int) = n := by omega
 by_cases h : 0 ≤ x ∨ n ∣ x
 ·rw [if_pos h]; rw [if_neg (by omega)]; omega
 ·rw [if_neg h, h3]
  have h4 : x % n ≠ 0 := fun e => h (.inr (Int.dvd_of_emod_eq_zero e))
  rw [if_pos (by omega)]; omega
theorem few_take (a : List Int) (n : Int) (i : Nat) (h : i < a.length) : few (a.take (i + 1)) n = few (a.take i) n ++ [a.getD i 0 % n] := by
 rw [take_getD h]; simp [few]
theorem tattingref1_Few_l0 (a : List Int) (n : Int) (hn : 0 < n) (hn' : n ≤ 1000000) (ha : a.length ≤ 1000000) : ∀ (d k i : Nat), i + d = a.length → d < k →
  tattingref1_Few.l0 k a n (few (a.take i) n) i = some (few a n) := by
 intro d
 induction d with
 | zero =>
  intro k i hi hk
  obtain ⟨k, rfl⟩ : ∃ m, k = m + 1 := ⟨k - 1, by omega⟩
  simp (disch := omega) only [tattingref1_Few.l0, if_neg]
  rw [List.take_of_length_le (by omega)]
 | succ d ih =>
  intro k i hi hk
  obtain ⟨k, rfl⟩ : ∃ m, k = m + 1 := ⟨k - 1, by omega⟩
  have e1 : rd a (i : Int) = a.getD i 0 := rfl
  have hl : (few (a.take i) n).length ≤ a.length := by rw [few_length]; simp; omega
  have h1 := Int.emod_nonneg (a.getD i 0) (show n ≠ 0 by omega)
  have h2 := Int.emod_lt_of_pos (a.getD i 0) hn
  have h3 := tmod_few (a.getD i 0) n hn
  have h4 := ih k (i + 1) (by omega) (by omega)
  rw [few_take a n i (by omega)] at h4
  simp only [Int.natCast_add, Int.cast_ofNat_Int] at h4
  simp (disch := omega) only [tattingref1_Few.l0, if_pos, if_neg, e1, wr]
  split
  ·rename_i hlt
   rw [if_pos hlt] at h3
   rw [h3]; exact h4
  ·rename_i hlt
   rw [if_neg hlt] at h3
   rw [h3]; exact h4
theorem tattingref1_Few_eq (a : List Int) (n : Int) (hn : 0 < n) (hn' : n ≤ 1000000) (ha : a.length ≤ 1000000) (k : Nat) (hk : a.length < k) : tattingref1_Few.f k a n = some (few a n) := by
 have := tattingref1_Few_l0 a n hn hn' ha a.length k 0 (by omega) hk
 unfold tattingref1_Few.f
 simpa [few] using this

def trow (a b : List Int) (p : Nat) : List Int := seq (b.length + 1) fun q => (T a b p q : Int)
theorem tattingref7_Behind_l1 (a b : List Int) (ha : a.length ≤ 100000) (hb : b.length ≤ 100000) (r : List (List Int)) (i : Nat) (hi : i < a.length) (F : Nat → List Int) (hF : ∀ p, i < p → p ≤ a.length → F p = trow a b p)
  (hr : ∀ G : Nat → List Int, (∀ p, i ≤ p → p ≤ a.length → G p = trow a b p) → Ev (fun k => tattingref7_Behind.l0 k a b (seq (a.length + 1) G) ((i : Int) - 1)) r) : ∀ (j : Nat) (g : Nat → Int), j ≤ b.length → (∀ q, j ≤ q → q ≤ b.length → g q = T a b i q) →
  Ev (fun k => tattingref7_Behind.l1 k a b (seq (a.length + 1) (upd F i (seq (b.length + 1) g))) i ((j : Int) - 1)) r := by
 intro j
 induction j with
 | zero =>
  intro g hj h2
  refine Ev.step (f := fun k => tattingref7_Behind.j2 k a b (seq (a.length + 1) (upd F i (seq (b.length + 1) g))) i (((0 : Nat) : Int) - 1) false) (fun k => ?_) ?_
  ·have e : decide ((((0 : Nat) : Int) - 1) ≥ 0) = false := decide_eq_false (by omega)
   rw [tattingref7_Behind.l1, if_pos (by omega), e]
  ·refine Ev.step (fun k => ?_) (hr (upd F i (seq (b.length + 1) g)) (fun p hp hp' => ?_))
   ·rw [tattingref7_Behind.j2, ift, wr (by omega) (by omega)]
   ·by_cases h : p = i
    ·subst h; rw [upd_same]; exact seq_ext fun q hq => h2 q (by omega) (by omega)
    ·rw [upd_ne _ _ h]; exact hF p (by omega) hp'
 | succ j ih =>
  intro g hj h2
  refine Ev.step (f := fun k => tattingref7_Behind.j2 k a b (seq (a.length + 1) (upd F i (seq (b.length + 1) g))) i (((j + 1 : Nat) : Int) - 1) true) (fun k => ?_) ?_
  ·have e : decide ((((j + 1 : Nat) : Int) - 1) ≥ 0) = true := decide_eq_true (by omega)
   rw [tattingref7_Behind.l1, if_pos (by omega), e]
  have hF1 := hF (i + 1) (by omega) (by omega)
  have hu : upd F i (seq (b.length + 1) g) (i + 1) = trow a b (i + 1) := by rw [upd_ne _ _ (by omega)]; exact hF1
  have l0 := seq_length (a.length + 1) (upd F i (seq (b.length + 1) g))
  have l1 := seq_length (b.length + 1) g
  have l2 : (trow a b (i + 1)).length = b.length + 1 := seq_length _ _
  have e1 : rd a (i : Int) = a.getD i 0 := rfl
  have e2 : rd b ((((j + 1 : Nat) : Int)) - 1) = b.getD j 0 := rd_at (by omega)
  have e3 := rd_L2_seq (n := a.length + 1) (upd F i (seq (b.length + 1) g)) (i := (i : Int)) (p := i) (by omega) rfl
  rw [upd_same] at e3
  have e4 := rd_L2_seq (n := a.length + 1) (upd F i (seq (b.length + 1) g)) (i := (i : Int) + 1) (p := i + 1) (by omega) (by omega)
  rw [hu] at e4
  have e5 : rd (trow a b (i + 1)) ((((j + 1 : Nat) : Int)) - 1 + 1) = T a b (i + 1) (j + 1) := rd_seq (n := b.length + 1) (fun q => (T a b (i + 1) q : Int)) (p := j + 1) (by omega) (by omega)
  have e6 : rd (trow a b (i + 1)) ((((j + 1 : Nat) : Int)) - 1) = T a b (i + 1) j := rd_seq (n := b.length + 1) (fun q => (T a b (i + 1) q : Int)) (p := j) (by omega) (by omega)
  have e7 := rd_seq (n := b.length + 1) g (i := (((j + 1 : Nat) : Int)) - 1 + 1) (p := j + 1) (by omega) (by omega)
  have hs := T_step (a := a) (b := b) (i := i) (j := j) hi (by omega)
  have t1 := T_le_left a b (i + 1) (j + 1)
  have v3 := h2 (j + 1) (by omega) (by omega)
  have key : ∀ v : Int, v = T a b i j → Ev (fun k => tattingref7_Behind.l1 k a b ((seq (a.length + 1) (upd F i (seq (b.length + 1) g))).set (i : Int).toNat ((seq (b.length + 1) g).set ((((j + 1 : Nat) : Int)) - 1).toNat v)) i ((((j + 1 : Nat) : Int)) - 1 - 1)) r := by
   intro v hv
   rw [show ((((j + 1 : Nat) : Int)) - 1).toNat = j by omega, show ((((j + 1 : Nat) : Int)) - 1 - 1) = (j : Int) - 1 by omega, Int.toNat_natCast, seq_set, seq_set]
   have hg := ih (upd g j v) (by omega) (fun q hq hq' => by
    by_cases h : q = j
    ·subst h; rw [upd_same, hv]
    ·rw [upd_ne _ _ h]; exact h2 q (by omega) hq')
   have e : upd (upd F i (seq (b.length + 1) g)) i (seq (b.length + 1) (upd g j v)) = upd F i (seq (b.length + 1) (upd g j v)) := by
    funext p
    by_cases h : p = i
    ·subst h; rw [upd_same, upd_same]
    ·rw [upd_ne _ _ h, upd_ne _ _ h, upd_ne _ _ h]
   rw [e]; exact hg
  by_cases hab : a.getD i 0 = b.getD j 0
  ·refine Ev.step (fun k => ?_) (key (T a b (i + 1) (j + 1) + 1) ?_)
   ·simp (disch := omega) only [tattingref7_Behind.j2, itt, ifT, wr, if_pos, e1, e2, e3, e4, e5, l0, l1, l2, if_pos hab]
   ·rw [hs, if_pos hab]; simp
  ·refine Ev.step (fun k => ?_) (key (mx (T a b (i + 1) j) (g (j + 1))) ?_)
   ·simp (disch := omega) only [tattingref7_Behind.j2, itt, ifT, wr, if_pos, e1, e2, e3, e4, e6, e7, l0, l1, l2]
    simp (disch := omega) only [if_neg hab, if_pos, wr]
   ·rw [hs, if_neg hab, v3]; unfold mx; omega
theorem tattingref7_Behind_l0 (a b : List Int) (ha : a.length ≤ 100000) (hb : b.length ≤ 100000) : ∀ (i : Nat) (F : Nat → List Int), i ≤ a.length →
  (∀ p, i ≤ p → p ≤ a.length → F p = trow a b p) → Ev (fun k => tattingref7_Behind.l0 k a b (seq (a.length + 1) F) ((i : Int) - 1)) (behind a b) := by
 intro i
 induction i with
 | zero =>
  intro F hi h1
  refine Ev.step (f := fun _ => some _) (fun k => ?_) (Ev.now _)
  simp (disch := omega) only [tattingref7_Behind.l0, if_neg]
  congr 1
  exact seq_ext fun p hp => h1 p (by omega) (by omega)
 | succ i ih =>
  intro F hi h1
  refine Ev.step (fun k => ?_) (tattingref7_Behind_l1 a b ha hb (behind a b) i (by omega) F (fun p hp hp' => h1 p (by omega) hp') (fun G hG => ih G (by omega) hG) b.length (fun _ => 0) (by omega) (fun q hq hq' => ?_))
  ·have l0 := seq_length (a.length + 1) F
   have e : ((b.length : Int) + 1).toNat = b.length + 1 := by omega
   simp (disch := omega) only [tattingref7_Behind.l0, wr, if_pos, e, l0, seq_const, seq_set]
   rw [show ((((i + 1 : Nat) : Int)) - 1) = (i : Int) by omega, Int.toNat_natCast]
  ·rw [T_out_right (by omega)]; rfl
theorem tattingref7_Behind_eq (a b : List Int) (ha : a.length ≤ 100000) (hb : b.length ≤ 100000) : Ev (fun k => tattingref7_Behind.f k a b) (behind a b) := by
 have hrow : (seq (b.length + 1) fun _ => (0 : Int)) = trow a b a.length := seq_ext fun q hq => by rw [T_out_left (by omega)]; rfl
 have h0 := tattingref7_Behind_l0 a b ha hb a.length (upd (fun _ => []) a.length (seq (b.length + 1) fun _ => 0)) (by omega) (fun p hp hp' => by
  obtain rfl : p = a.length := by omega
  rw [upd_same, hrow])
 have h1 : Ev (fun k => tattingref7_Behind.l1 k a b (seq (a.length + 1) (upd (fun _ => []) a.length (seq (b.length + 1) fun _ => 0))) a.length ((b.length : Int) - 1)) (behind a b) := by
  refine Ev.step (f := fun k => tattingref7_Behind.j2 k a b (seq (a.length + 1) (upd (fun _ => []) a.length (seq (b.length + 1) fun _ => 0))) a.length ((b.length : Int) - 1) false) (fun k => ?_) (Ev.step (fun k => ?_) h0)
  ·rw [tattingref7_Behind.l1, if_neg (by omega)]
  ·rw [tattingref7_Behind.j2, ift, wr (by omega) (by omega)]
 have h2 : Ev (fun k => tattingref7_Behind.l0 k a b (seq (a.length + 1) (fun _ => [])) a.length) (behind a b) := by
  refine Ev.step (fun k => ?_) h1
  have l0 := seq_length (a.length + 1) (fun _ => ([] : List Int))
  have e : ((b.length : Int) + 1).toNat = b.length + 1 := by omega
  simp (disch := omega) only [tattingref7_Behind.l0, wr, if_pos, e, l0, seq_const, seq_set]
  rw [Int.toNat_natCast]
 refine Ev.congr (fun k => ?_) h2
 have e : ((a.length : Int) + 1).toNat = a.length + 1 := by omega
 unfold tattingref7_Behind.f
 simp (disch := omega) only [wr, if_pos, e, seq_const]

theorem tattingref7_Turned_l0 (a : List Int) (ha : a.length ≤ 1000000) : ∀ (i k : Nat), i ≤ a.length → i < k →
  tattingref7_Turned.l0 k a (a.drop i).reverse ((i : Int) - 1) = some a.reverse := by
 intro i
 induction i with
 | zero =>
  intro k hi hk
  obtain ⟨k, rfl⟩ : ∃ m, k = m + 1 := ⟨k - 1, by omega⟩
  simp (disch := omega) only [tattingref7_Turned.l0, if_neg]
  simp
 | succ i ih =>
  intro k hi hk
  obtain ⟨k, rfl⟩ : ∃ m, k = m + 1 := ⟨k - 1, by omega⟩
  have e1 : rd a ((((i + 1 : Nat) : Int)) - 1) = a.getD i 0 := rd_at (by omega)
  have h4 := ih k (by omega) (by omega)
  have hl : (a.drop (i + 1)).reverse.length ≤ a.length := by simp
  rw [drop_getD (show i < a.length by omega), List.reverse_cons] at h4
  simp (disch := omega) only [tattingref7_Turned.l0, if_pos, e1, wr]
  rw [show (((i + 1 : Nat) : Int)) - 1 - 1 = (i : Int) - 1 by omega]
  exact h4
theorem tattingref7_Turned_eq (a : List Int) (ha : a.length ≤ 1000000) (k : Nat) (hk : a.length < k) : tattingref7_Turned.f k a = some a.reverse := by
 have := tattingref7_Turned_l0 a ha a.length k (by omega) hk
 unfold tattingref7_Turned.f
 rw [wr (by omega) (by omega)]
 simpa using this

def arow (a b : List Int) (p : Nat) : List Int := seq (b.length + 1) fun q => (H a b p q : Int)
theorem T_turned (a b : List Int) (i j : Nat) (hi : i ≤ a.length) (hj : j ≤ b.length) : T a.reverse b.reverse (a.length - i) (b.length - j) = H a b i j := by
 unfold T H
 rw [List.drop_reverse, List.drop_reverse, lcs_reverse, show a.length - (a.length - i) = i by omega, show b.length - (b.length - j) = j by omega]
theorem behind_turned (a b : List Int) (i j : Nat) (hi : i ≤ a.length) (hj : j ≤ b.length) : (rd_L2 (behind a.reverse b.reverse) ((a.length - i : Nat) : Int)).length = b.length + 1 ∧ rd (rd_L2 (behind a.reverse b.reverse) ((a.length - i : Nat) : Int)) ((b.length - j : Nat) : Int) = (H a b i j : Int) := by
 unfold behind
 rw [List.length_reverse, List.length_reverse, rd_L2_seq _ (show a.length - i < a.length + 1 by omega) rfl, seq_length, rd_seq _ (show b.length - j < b.length + 1 by omega) rfl, T_turned a b i j hi hj]
 exact ⟨rfl, rfl⟩
theorem AheadB_l1 (a b : List Int) (ha : a.length ≤ 100000) (hb : b.length ≤ 100000) (i : Nat) (hi : i ≤ a.length) (F : Nat → List Int) (hF : ∀ p, p < i → F p = arow a b p) {R : List (List Int)}
  (hr : ∀ G : Nat → List Int, (∀ p, p < i + 1 → G p = arow a b p) → Ev (fun k => tattingref7_AheadB.l0 k a b (behind a.reverse b.reverse) (seq (a.length + 1) G) ((i : Int) + 1)) R) : ∀ (d j : Nat) (g : Nat → Int), j + d = b.length + 1 → (∀ q, q < j → g q = H a b i q) →
  Ev (fun k => tattingref7_AheadB.l1 k a b (behind a.reverse b.reverse) (seq (a.length + 1) (upd F i (seq (b.length + 1) g))) i j) R := by
 have hlen : (behind a.reverse b.reverse).length = a.length + 1 := by unfold behind; rw [seq_length, List.length_reverse]
 intro d
 induction d with
 | zero =>
  intro j g hj hg
  refine Ev.step (fun k => ?_) (hr (upd F i (seq (b.length + 1) g)) (fun p hp => ?_))
  ·rw [tattingref7_AheadB.l1, if_neg (by omega), wr (by omega) (by omega)]
  ·by_cases e : p = i
   ·subst e; rw [upd_same]; exact seq_ext fun q hq => hg q (by omega)
   ·rw [upd_ne _ _ e]; exact hF p (by omega)
 | succ d ih =>
  intro j g hj hg
  obtain ⟨b1, b2⟩ := behind_turned a b i j hi (by omega)
  have e0 : rd_L2 (seq (a.length + 1) (upd F i (seq (b.length + 1) g))) (i : Int) = seq (b.length + 1) g := by
   rw [rd_L2_seq _ (show i < a.length + 1 by omega) rfl, upd_same]
  have w1 : ((a.length : Int) - i) = ((a.length - i : Nat) : Int) := by omega
  have w2 : ((b.length : Int) - j) = ((b.length - j : Nat) : Int) := by omega
  have l1 := seq_length (a.length + 1) (upd F i (seq (b.length + 1) g))
  have l2 := seq_length (b.length + 1) g
  have h4 := ih (j + 1) (upd g j (H a b i j)) (by omega) (fun q hq => by
   by_cases e : q = j
   ·subst e; rw [upd_same]
   ·rw [upd_ne _ _ e]; exact hg q (by omega))
  refine Ev.step (fun k => ?_) h4
  simp only [Int.natCast_add, Int.cast_ofNat_Int]
  rw [tattingref7_AheadB.l1, if_pos (by omega), if_pos (by omega), if_pos (by omega), e0, wr (x := (a.length : Int) - i) (by omega) (by omega), wr (x := (b.length : Int) - j) (by omega) (by omega), w1, w2, b1, b2,
   if_pos (by omega), if_pos (by omega), if_pos (by omega), if_pos (by omega), if_pos (by omega), if_pos (by omega), Int.toNat_natCast, Int.toNat_natCast, seq_set, seq_set, wr (x := (j : Int) + 1) (by omega) (by omega)]
  congr 1
  refine seq_ext fun p hp => ?_
  by_cases e : p = i
  ·subst e; rw [upd_same, upd_same]
  ·rw [upd_ne _ _ e, upd_ne _ _ e, upd_ne _ _ e]
theorem AheadB_l0 (a b : List Int) (ha : a.length ≤ 100000) (hb : b.length ≤ 100000) : ∀ (d i : Nat) (F : Nat → List Int), i + d = a.length + 1 → (∀ p, p < i → F p = arow a b p) →
  Ev (fun k => tattingref7_AheadB.l0 k a b (behind a.reverse b.reverse) (seq (a.length + 1) F) i) (ahead a b) := by
 intro d
 induction d with
 | zero =>
  intro i F hi hF
  refine Ev.step (f := fun _ => some (ahead a b)) (fun k => ?_) (Ev.now _)
  rw [tattingref7_AheadB.l0, if_neg (by omega)]
  congr 1
  exact seq_ext fun p hp => hF p (by omega)
 | succ d ih =>
  intro i F hi hF
  have h1 := AheadB_l1 a b ha hb i (by omega) F hF (R := ahead a b) (fun G hG => by
   have := ih (i + 1) G (by omega) hG
   simpa using this) (b.length + 1) 0 (fun _ => 0) (by omega) (fun q hq => by omega)
  refine Ev.step (fun k => ?_) h1
  have l1 := seq_length (a.length + 1) F
  have w1 : ((b.length : Int) + 1).toNat = b.length + 1 := by omega
  rw [tattingref7_AheadB.l0, if_pos (by omega), wr (x := (b.length : Int) + 1) (by omega) (by omega), if_pos (by omega), if_pos (by omega), if_pos (by omega), if_pos (by omega), w1, Int.toNat_natCast, seq_const, seq_set]
  rfl
theorem tattingref7_Ahead_eq (a b : List Int) (ha : a.length ≤ 100000) (hb : b.length ≤ 100000) : Ev (fun k => tattingref7_Ahead.f k a b) (ahead a b) := by
 have la : a.reverse.length = a.length := List.length_reverse
 have lb : b.reverse.length = b.length := List.length_reverse
 obtain ⟨K1, h1⟩ := tattingref7_Behind_eq a.reverse b.reverse (by omega) (by omega)
 obtain ⟨K2, h2⟩ := AheadB_l0 a b ha hb (a.length + 1) 0 (fun _ => []) (by omega) (fun p hp => by omega)
 refine ⟨300000 + K1 + K2, fun k hk => ?_⟩
 have e1 : tattingref7_Behind.f k a.reverse b.reverse = some _ := h1 k (by omega)
 have e2 : tattingref7_AheadB.l0 k a b (behind a.reverse b.reverse) (seq (a.length + 1) fun _ => []) ((0 : Nat) : Int) = some _ := h2 k (by omega)
 have w1 : ((a.length : Int) + 1).toNat = a.length + 1 := by omega
 show tattingref7_Ahead.f k a b = some _
 unfold tattingref7_Ahead.f tattingref7_AheadA.f tattingref7_AheadB.f
 rw [tattingref7_Turned_eq a (by omega) k (by omega), bs, tattingref7_Turned_eq b (by omega) k (by omega), bs, e1, bs, bs, wr (x := (a.length : Int) + 1) (by omega) (by omega), if_pos (by omega), if_pos (by omega), w1, seq_const]
 exact e2

theorem grid_Len_l1 (a b : List Int) (ha : a.length ≤ 100000) (hb : b.length ≤ 100000) (r : Int) (i : Nat) (hi : i < a.length)
  (hr : ∀ g : Nat → Int, (∀ q, q ≤ b.length → g q = T a b i q) → Ev (fun k => grid_Len.l0 k a b (seq (b.length + 1) g) ((i : Int) - 1)) r) : ∀ (j : Nat) (g : Nat → Int), j ≤ b.length →
  (∀ q, j ≤ q → q ≤ b.length → g q = T a b i q) → (∀ q, q < j → g q = T a b (i + 1) q) → Ev (fun k => grid_Len.l1 k a b (seq (b.length + 1) g) i (T a b (i + 1) j) ((j : Int) - 1)) r := by
 intro j
 induction j with
 | zero =>
  intro g hj h1 h2
  refine Ev.step (fun k => ?_) (hr g (fun q hq => h1 q (by omega) hq))
  simp (disch := omega) only [grid_Len.l1, wr, if_neg]
 | succ j ih =>
  intro g hj h1 h2
  have l1 := seq_length (b.length + 1) g
  have e1 : rd a (i : Int) = a.getD i 0 := rfl
  have e2 : rd b ((((j + 1 : Nat) : Int)) - 1) = b.getD j 0 := rd_at (by omega)
  have e3 := rd_seq (n := b.length + 1) g (i := (((j + 1 : Nat) : Int)) - 1) (p := j) (by omega) (by omega)
  have e4 := rd_seq (n := b.length + 1) g (i := (((j + 1 : Nat) : Int)) - 1 + 1) (p := j + 1) (by omega) (by omega)
  have hs := T_step (a := a) (b := b) (i := i) (j := j) hi (by omega)
  have t1 := T_le_left a b (i + 1) (j + 1)
  have v1 := h1 (j + 1) (by omega) (by omega)
  have v2 := h2 j (by omega)
  have key : ∀ v : Int, v = T a b i j → Ev (fun k => grid_Len.l1 k a b ((seq (b.length + 1) g).set ((((j + 1 : Nat) : Int)) - 1).toNat v) i (g j) ((((j + 1 : Nat) : Int)) - 1 - 1)) r := by
   intro v hv
   rw [show ((((j + 1 : Nat) : Int)) - 1).toNat = j by omega, show ((((j + 1 : Nat) : Int)) - 1 - 1) = (j : Int) - 1 by omega, seq_set, v2]
   refine ih (upd g j v) (by omega) (fun q hq hq' => ?_) (fun q hq => ?_)
   ·by_cases h : q = j
    ·subst h; rw [upd_same, hv]
    ·rw [upd_ne _ _ h]; exact h1 q (by omega) hq'
   ·rw [upd_ne _ _ (by omega)]; exact h2 q (by omega)
  by_cases hab : a.getD i 0 = b.getD j 0
  ·refine Ev.step (fun k => ?_) (key (T a b (i + 1) (j + 1) + 1) ?_)
   ·simp (disch := omega) only [grid_Len.l1, ifT, wr, if_pos, e1, e2, e3, e4, l1, if_pos hab]
   ·rw [hs, if_pos hab]; simp
  ·refine Ev.step (fun k => ?_) (key (mx (g j) (g (j + 1))) ?_)
   ·simp (disch := omega) only [grid_Len.l1, ifT, wr, if_pos, e1, e2, e3, e4, l1]
    simp (disch := omega) only [if_neg hab, if_pos, wr]
   ·rw [hs, if_neg hab, v1, v2]; unfold mx; omega
theorem grid_Len_l0 (a b : List Int) (ha : a.length ≤ 100000) (hb : b.length ≤ 100000) : ∀ (i : Nat) (g : Nat → Int), i ≤ a.length → (∀ q, q ≤ b.length → g q = T a b i q) →
  Ev (fun k => grid_Len.l0 k a b (seq (b.length + 1) g) ((i : Int) - 1)) (lcs a b : Int) := by
 intro i
 induction i with
 | zero =>
  intro g hi h1
  refine Ev.step (f := fun _ => some _) (fun k => ?_) (Ev.now _)
  have l1 := seq_length (b.length + 1) g
  have e3 := rd_seq (n := b.length + 1) g (i := 0) (p := 0) (by omega) (by omega)
  simp (disch := omega) only [grid_Len.l0, if_neg, if_pos, l1, e3]
  rw [h1 0 (by omega)]; rfl
 | succ i ih =>
  intro g hi h1
  refine Ev.step (fun k => ?_) (grid_Len_l1 a b ha hb _ i (by omega) (fun g' h' => ih g' (by omega) h') b.length g (by omega) (fun q hq hq' => ?_) (fun q hq => h1 q (by omega)))
  ·simp (disch := omega) only [grid_Len.l0, wr, if_pos]
   rw [show ((((i + 1 : Nat) : Int)) - 1) = (i : Int) by omega, T_out_right (Nat.le_refl _)]; rfl
  ·obtain rfl : q = b.length := by omega
   rw [h1 _ (by omega), T_out_right (by omega), T_out_right (by omega)]
theorem grid_Len_eq (a b : List Int) (ha : a.length ≤ 100000) (hb : b.length ≤ 100000) : Ev (fun k => grid_Len.f k a b) (lcs a b : Int) := by
 refine Ev.congr (fun k => ?_) (grid_Len_l0 a b ha hb a.length (fun _ => 0) (by omega) (fun q hq => by rw [T_out_left (by omega)]; rfl))
 have e : ((b.length : Int) + 1).toNat = b.length + 1 := by omega
 unfold grid_Len.f
 simp (disch := omega) only [wr, if_pos, e, seq_const]

/-- A pair behind which there is just one less. -/
def hit (a b : List Int) (want : Nat) (x y : Nat) : Prop := x < a.length ∧ y < b.length ∧ a.getD x 0 = b.getD y 0 ∧ T a b (x + 1) (y + 1) + 1 = want
/-- The first such pair from two places on. -/
def isFirst (a b : List Int) (want i j x y : Nat) : Prop := i ≤ x ∧ j ≤ y ∧ hit a b want x y ∧ ∀ x' y', i ≤ x' → j ≤ y' → (x' < x ∨ (x' = x ∧ y' < y)) → ¬ hit a b want x' y'
/-- The list of first pairs. -/
def isLeast (a b : List Int) : Nat → Nat → List S28 → Prop
 | i, j, [] => T a b i j = 0
 | i, j, p :: l => ∃ x y : Nat, p = ⟨x, y⟩ ∧ isFirst a b (T a b i j) i j x y ∧ isLeast a b (x + 1) (y + 1) l
theorem T_pair {a b : List Int} {x y : Nat} (hx : x < a.length) (hy : y < b.length) (e : a.getD x 0 = b.getD y 0) : T a b x y = T a b (x + 1) (y + 1) + 1 := by
 rw [T_step hx hy, if_pos e]
theorem hit_some (a b : List Int) : ∀ (d i j : Nat), (a.length - i) + (b.length - j) = d → T a b i j ≠ 0 → ∃ x y, i ≤ x ∧ j ≤ y ∧ hit a b (T a b i j) x y := by
 intro d
 induction d using Nat.strongRecOn with
 | ind d ih =>
  intro i j hd h0
  by_cases hi : i < a.length
  ·by_cases hj : j < b.length
   ·by_cases e : a.getD i 0 = b.getD j 0
    ·exact ⟨i, j, Nat.le_refl _, Nat.le_refl _, hi, hj, e, (T_pair hi hj e).symm⟩
    ·have hs := T_step hi hj
     rw [if_neg e] at hs
     by_cases hle : T a b (i + 1) j ≤ T a b i (j + 1)
     ·have e2 : T a b i j = T a b i (j + 1) := by omega
      obtain ⟨x, y, h1, h2, h3⟩ := ih _ (by omega) i (j + 1) rfl (by omega)
      exact ⟨x, y, h1, by omega, by rw [e2]; exact h3⟩
     ·have e2 : T a b i j = T a b (i + 1) j := by omega
      obtain ⟨x, y, h1, h2, h3⟩ := ih _ (by omega) (i + 1) j rfl (by omega)
      exact ⟨x, y, by omega, h2, by rw [e2]; exact h3⟩
   ·exact absurd (T_out_right (by omega)) h0
  ·exact absurd (T_out_left (by omega)) h0
/-- Of what holds somewhere there is a first place. -/
theorem first_nat {P : Nat → Prop} : ∀ n, P n → ∃ m, P m ∧ ∀ k, k < m → ¬ P k := by
 intro n
 induction n using Nat.strongRecOn with
 | ind n ih =>
  intro h
  by_cases c : ∃ k, k < n ∧ P k
  ·obtain ⟨k, hk, hp⟩ := c
   exact ih k hk hp
  ·exact ⟨n, h, fun k hk hp => c ⟨k, hk, hp⟩⟩
theorem isFirst_ex (a b : List Int) (i j : Nat) (h : T a b i j ≠ 0) : ∃ x y, isFirst a b (T a b i j) i j x y := by
 obtain ⟨x0, y0, h1, h2, h3⟩ := hit_some a b _ i j rfl h
 obtain ⟨x, ⟨hx, y1, hy1, hh⟩, hmin⟩ := first_nat (P := fun x => i ≤ x ∧ ∃ y, j ≤ y ∧ hit a b (T a b i j) x y) x0 ⟨h1, y0, h2, h3⟩
 obtain ⟨y, ⟨hy, hh'⟩, hmin'⟩ := first_nat (P := fun y => j ≤ y ∧ hit a b (T a b i j) x y) y1 ⟨hy1, hh⟩
 refine ⟨x, y, hx, hy, hh', fun x' y' h4 h5 h6 h7 => ?_⟩
 rcases h6 with h6 | ⟨rfl, h6⟩
 ·exact hmin x' h6 ⟨h4, y', h5, h7⟩
 ·exact hmin' y' h6 ⟨h5, h7⟩
theorem isLeast_ex (a b : List Int) : ∀ (n i j : Nat), T a b i j = n → ∃ l : List S28, isLeast a b i j l := by
 intro n
 induction n with
 | zero => intro i j h; exact ⟨[], h⟩
 | succ n ih =>
  intro i j h
  obtain ⟨x, y, hf⟩ := isFirst_ex a b i j (by omega)
  obtain ⟨l, hl⟩ := ih (x + 1) (y + 1) (by have := hf.2.2.1.2.2.2; omega)
  exact ⟨⟨x, y⟩ :: l, x, y, rfl, hf, hl⟩
theorem isLeast_len {a b : List Int} : ∀ {l : List S28} {i j : Nat}, isLeast a b i j l → l.length = T a b i j
 | [], _, _, h => h.symm
 | p :: l, i, j, ⟨x, y, _, hf, hl⟩ => by have := isLeast_len hl; have := hf.2.2.1.2.2.2; simp; omega
theorem isLeast_good {a b : List Int} : ∀ {l : List S28} {i j : Nat}, isLeast a b i j l → good a b ((i : Int) - 1) ((j : Int) - 1) l = true
 | [], _, _, _ => rfl
 | p :: l, i, j, ⟨x, y, hp, hf, hl⟩ => by
  subst hp
  obtain ⟨h1, h2, ⟨h3, h4, h5, h6⟩, _⟩ := hf
  rw [good_cons, okPair_iff]
  refine ⟨⟨by simp, by simpa using h3, by simp, by simpa using h4, by simpa [rd_nat] using h5, by simp; omega, by simp; omega⟩, ?_⟩
  have := isLeast_good hl
  simpa using this
theorem least_next_l (a b : List Int) (ha : a.length ≤ 100000) (hb : b.length ≤ 100000) (w i j x y : Nat) (hw : w ≤ 100000) (hf : isFirst a b w i j x y) : ∀ (d p q : Nat), (x - p) * (b.length + 2) + (b.length + 1 - q) = d → i ≤ p → j ≤ q → (p < x ∨ (p = x ∧ q ≤ y)) → q ≤ b.length →
  Ev (fun k => least_next.l1 k (behind a b) a b j w p q) (x, y, true) := by
 obtain ⟨hx, hy, ⟨hx', hy', he, hT⟩, hmin⟩ := hf
 intro d
 induction d using Nat.strongRecOn with
 | ind d ih =>
  intro p q hd hp hq hpq hqb
  have l0 : (behind a b).length = a.length + 1 := seq_length _ _
  by_cases hend : q < b.length
  ·have e1 : rd a (p : Int) = a.getD p 0 := rfl
   have e2 : rd b (q : Int) = b.getD q 0 := rfl
   have e3 : rd_L2 (behind a b) ((p : Int) + 1) = seq (b.length + 1) fun r => (T a b (p + 1) r : Int) := rd_L2_seq _ (p := p + 1) (by omega) (by omega)
   have l1 : (seq (b.length + 1) fun r => (T a b (p + 1) r : Int)).length = b.length + 1 := seq_length _ _
   have e4 := rd_seq (n := b.length + 1) (fun r => (T a b (p + 1) r : Int)) (i := (q : Int) + 1) (p := q + 1) (by omega) (by omega)
   have t1 := T_le_left a b (p + 1) (q + 1)
   by_cases hhere : p = x ∧ q = y
   ·obtain ⟨rfl, rfl⟩ := hhere
    refine Ev.step (f := fun _ => some _) (fun k => ?_) (Ev.now _)
    simp (disch := omega) only [least_next.l1, if_pos, wr, e1, e2, e3, e4, l0, l1, if_pos he]
   ·have hno := hmin p q hp hq (by omega)
    have hnext : Ev (fun k => least_next.l1 k (behind a b) a b j w p ((q : Int) + 1)) (x, y, true) := by
     have := ih _ (by rw [← hd]; omega) p (q + 1) rfl hp (by omega) (by omega) (by omega)
     simpa using this
    by_cases hab : a.getD p 0 = b.getD q 0
    ·have hne : ¬ (((T a b (p + 1) (q + 1) : Nat) : Int) + 1 = (w : Int)) := fun h => hno ⟨by omega, hend, hab, by omega⟩
     refine Ev.step (fun k => ?_) hnext
     simp (disch := omega) only [least_next.l1, if_pos, wr, e1, e2, e3, e4, l0, l1, if_pos hab, if_neg hne]
    ·refine Ev.step (fun k => ?_) hnext
     simp (disch := omega) only [least_next.l1, if_pos, wr, e1, e2, if_neg hab]
  ·-- the next row
   have hpx : p < x := by omega
   have hm : (x - p) * (b.length + 2) = (x - (p + 1)) * (b.length + 2) + (b.length + 2) := by
    rw [show x - p = (x - (p + 1)) + 1 by omega, Nat.succ_mul]
   have hnext := ih ((x - (p + 1)) * (b.length + 2) + (b.length + 1 - j)) (by omega) (p + 1) j rfl (by omega) (Nat.le_refl _) (by omega) (by omega)
   refine Ev.step (f := fun k => least_next.l0 k (behind a b) a b j w ((p : Int) + 1)) (fun k => ?_) (Ev.step (fun k => ?_) hnext)
   ·rw [least_next.l1, if_neg (by omega), wr (by omega) (by omega)]
   ·rw [least_next.l0, if_pos (by omega)]
    simp
theorem least_next_some (a b : List Int) (ha : a.length ≤ 100000) (hb : b.length ≤ 100000) (i j x y : Nat) (hi : i ≤ a.length) (hj : j ≤ b.length) (hf : isFirst a b (T a b i j) i j x y) : Ev (fun k => least_next.f k (behind a b) a b i j) (x, y, true) := by
 have hT := hf.2.2.1.2.2.2
 have hx := hf.2.2.1.1
 have hy := hf.2.2.1.2.1
 have l0 : (behind a b).length = a.length + 1 := seq_length _ _
 have e3 : rd_L2 (behind a b) (i : Int) = seq (b.length + 1) fun r => (T a b i r : Int) := rd_L2_seq _ (p := i) (by omega) rfl
 have l1 : (seq (b.length + 1) fun r => (T a b i r : Int)).length = b.length + 1 := seq_length _ _
 have e4 := rd_seq (n := b.length + 1) (fun r => (T a b i r : Int)) (i := (j : Int)) (p := j) (by omega) rfl
 have t1 := T_le_left a b i j
 have := least_next_l a b ha hb (T a b i j) i j x y (by omega) hf _ i j rfl (Nat.le_refl _) (Nat.le_refl _) (by have := hf.1; have := hf.2.1; omega) hj
 refine Ev.congr (f := fun k => least_next.l0 k (behind a b) a b j (T a b i j : Nat) i) (fun k => ?_) (Ev.step (fun k => ?_) this)
 ·unfold least_next.f
  simp (disch := omega) only [if_pos, if_neg, e3, e4, l0, l1]
 ·rw [least_next.l0, if_pos (by have := hf.1; omega)]
theorem least_next_none (a b : List Int) (i j : Nat) (hi : i ≤ a.length) (hj : j ≤ b.length) (h : T a b i j = 0) (k : Nat) : least_next.f k (behind a b) a b i j = some (0, 0, false) := by
 have l0 : (behind a b).length = a.length + 1 := seq_length _ _
 have e3 : rd_L2 (behind a b) (i : Int) = seq (b.length + 1) fun r => (T a b i r : Int) := rd_L2_seq _ (p := i) (by omega) rfl
 have l1 : (seq (b.length + 1) fun r => (T a b i r : Int)).length = b.length + 1 := seq_length _ _
 have e4 := rd_seq (n := b.length + 1) (fun r => (T a b i r : Int)) (i := (j : Int)) (p := j) (by omega) rfl
 unfold least_next.f
 simp (disch := omega) only [if_pos, e3, e4, l0, l1]
theorem least_Of_l0 (a b : List Int) (ha : a.length ≤ 100000) (hb : b.length ≤ 100000) : ∀ (l : List S28) (i j : Nat) (acc : List S28), i ≤ a.length → j ≤ b.length → acc.length ≤ i → isLeast a b i j l →
  Ev (fun k => least_Of.l0 k a b (behind a b) acc i j) (acc ++ l)
 | [], i, j, acc, hi, hj, hacc, h => by
  refine Ev.step (f := fun _ => some _) (fun k => ?_) (Ev.now _)
  rw [least_Of.l0, least_next_none a b i j hi hj h, bs, ift, List.append_nil]
 | p :: l, i, j, acc, hi, hj, hacc, ⟨x, y, hp, hf, hl⟩ => by
  subst hp
  have hx := hf.2.2.1.1
  have hy := hf.2.2.1.2.1
  have ih := least_Of_l0 a b ha hb l (x + 1) (y + 1) (acc ++ [⟨x, y⟩]) (by omega) (by omega) (by simp; have := hf.1; omega) hl
  have hn := least_next_some a b ha hb i j x y hi hj hf
  rw [List.append_assoc, List.singleton_append] at ih
  refine Ev.step (fun k => rfl) (Ev.bind hn ?_)
  refine Ev.congr (fun k => ?_) ih
  rw [itt, if_pos (by omega), wr (x := (x : Int) + 1) (by omega) (by omega), wr (x := (y : Int) + 1) (by omega) (by omega)]
  simp
theorem least_Of_eq (a b : List Int) (ha : a.length ≤ 100000) (hb : b.length ≤ 100000) (l : List S28) (h : isLeast a b 0 0 l) : Ev (fun k => least_Of.f k a b) l := by
 unfold least_Of.f
 refine Ev.bind (grid_Behind_eq a b ha hb) ?_
 simpa using least_Of_l0 a b ha hb l 0 0 [] (by omega) (by omega) (by simp) h

theorem tattingref7_first_l (a b : List Int) (ha : a.length ≤ 100000) (hb : b.length ≤ 100000) (w i j x y : Nat) (hw : w ≤ 100000) (hf : isFirst a b w i j x y) : ∀ (d p q : Nat), (x - p) * (b.length + 2) + (b.length + 1 - q) = d → i ≤ p → j ≤ q → (p < x ∨ (p = x ∧ q ≤ y)) → q ≤ b.length →
  Ev (fun k => tattingref7_first.l1 k a b (behind a b) j w p q) ((x : Int), (y : Int)) := by
 obtain ⟨hx, hy, ⟨hx', hy', he, hT⟩, hmin⟩ := hf
 intro d
 induction d using Nat.strongRecOn with
 | ind d ih =>
  intro p q hd hp hq hpq hqb
  have l0 : (behind a b).length = a.length + 1 := seq_length _ _
  by_cases hend : q < b.length
  ·have e1 : rd a (p : Int) = a.getD p 0 := rfl
   have e2 : rd b (q : Int) = b.getD q 0 := rfl
   have e3 : rd_L2 (behind a b) ((p : Int) + 1) = seq (b.length + 1) fun r => (T a b (p + 1) r : Int) := rd_L2_seq _ (p := p + 1) (by omega) (by omega)
   have l1 : (seq (b.length + 1) fun r => (T a b (p + 1) r : Int)).length = b.length + 1 := seq_length _ _
   have e4 := rd_seq (n := b.length + 1) (fun r => (T a b (p + 1) r : Int)) (i := (q : Int) + 1) (p := q + 1) (by omega) (by omega)
   have t1 := T_le_left a b (p + 1) (q + 1)
   by_cases hhere : p = x ∧ q = y
   ·obtain ⟨rfl, rfl⟩ := hhere
    refine Ev.step (f := fun _ => some _) (fun k => ?_) (Ev.now _)
    simp (disch := omega) only [tattingref7_first.l1, if_pos, wr, e1, e2, e3, e4, l0, l1, if_pos he]
   ·have hno := hmin p q hp hq (by omega)
    have hnext : Ev (fun k => tattingref7_first.l1 k a b (behind a b) j w p ((q : Int) + 1)) ((x : Int), (y : Int)) := by
     have := ih _ (by rw [← hd]; omega) p (q + 1) rfl hp (by omega) (by omega) (by omega)
     simpa using this
    by_cases hab : a.getD p 0 = b.getD q 0
    ·have hne : ¬ (((T a b (p + 1) (q + 1) : Nat) : Int) = (w : Int) - 1) := fun h => hno ⟨by omega, hend, hab, by omega⟩
     refine Ev.step (fun k => ?_) hnext
     simp (disch := omega) only [tattingref7_first.l1, if_pos, wr, e1, e2, e3, e4, l0, l1, if_pos hab, if_neg hne]
    ·refine Ev.step (fun k => ?_) hnext
     simp (disch := omega) only [tattingref7_first.l1, if_pos, wr, e1, e2, if_neg hab]
  ·-- the next row
   have hpx : p < x := by omega
   have hm : (x - p) * (b.length + 2) = (x - (p + 1)) * (b.length + 2) + (b.length + 2) := by
    rw [show x - p = (x - (p + 1)) + 1 by omega, Nat.succ_mul]
   have hnext := ih ((x - (p + 1)) * (b.length + 2) + (b.length + 1 - j)) (by omega) (p + 1) j rfl (by omega) (Nat.le_refl _) (by omega) (by omega)
   refine Ev.step (f := fun k => tattingref7_first.l0 k a b (behind a b) j w ((p : Int) + 1)) (fun k => ?_) (Ev.step (fun k => ?_) hnext)
   ·rw [tattingref7_first.l1, if_neg (by omega), wr (by omega) (by omega)]
   ·rw [tattingref7_first.l0, if_pos (by omega)]
    simp
theorem tattingref7_first_some (a b : List Int) (ha : a.length ≤ 100000) (hb : b.length ≤ 100000) (i j x y : Nat) (hi : i ≤ a.length) (hj : j ≤ b.length) (hf : isFirst a b (T a b i j) i j x y) : Ev (fun k => tattingref7_first.f k a b (behind a b) i j (T a b i j : Nat)) ((x : Int), (y : Int)) := by
 have t1 := T_le_left a b i j
 have hx := hf.2.2.1.1
 have := tattingref7_first_l a b ha hb (T a b i j) i j x y (by omega) hf _ i j rfl (Nat.le_refl _) (Nat.le_refl _) (by have := hf.1; have := hf.2.1; omega) hj
 refine Ev.step (fun k => ?_) this
 unfold tattingref7_first.f
 rw [tattingref7_first.l0, if_pos (by have := hf.1; omega)]
theorem tattingref7_Least_l0 (a b : List Int) (ha : a.length ≤ 100000) (hb : b.length ≤ 100000) : ∀ (l : List S28) (i j : Nat) (acc : List S28), i ≤ a.length → j ≤ b.length → acc.length ≤ i → isLeast a b i j l →
  Ev (fun k => tattingref7_Least.l0 k a b (behind a b) acc i j (T a b i j : Nat)) (acc ++ l)
 | [], i, j, acc, hi, hj, hacc, h => by
  have h : T a b i j = 0 := h
  refine Ev.step (f := fun _ => some _) (fun k => ?_) (Ev.now _)
  rw [tattingref7_Least.l0, if_neg (by omega), List.append_nil]
 | p :: l, i, j, acc, hi, hj, hacc, ⟨x, y, hp, hf, hl⟩ => by
  subst hp
  have hx := hf.2.2.1.1
  have hy := hf.2.2.1.2.1
  have hT := hf.2.2.1.2.2.2
  have t1 := T_le_left a b i j
  have ih := tattingref7_Least_l0 a b ha hb l (x + 1) (y + 1) (acc ++ [⟨x, y⟩]) (by omega) (by omega) (by simp; have := hf.1; omega) hl
  have hn := tattingref7_first_some a b ha hb i j x y hi hj hf
  rw [List.append_assoc, List.singleton_append] at ih
  refine Ev.step (f := fun k => (tattingref7_first.f k a b (behind a b) i j (T a b i j : Nat)).bind fun bt => if acc.length < 8796093022208 then tattingref7_Least.l0 k a b (behind a b) (acc ++ [⟨bt.1, bt.2⟩]) (wrap64 (bt.1 + 1)) (wrap64 (bt.2 + 1)) (wrap64 (((T a b i j : Nat) : Int) - 1)) else none) (fun k => ?_) (Ev.bind hn ?_)
  ·rw [tattingref7_Least.l0, if_pos (by omega)]
  ·refine Ev.congr (fun k => ?_) ih
   rw [if_pos (by omega), wr (x := (x : Int) + 1) (by omega) (by omega), wr (x := (y : Int) + 1) (by omega) (by omega), wr (x := ((T a b i j : Nat) : Int) - 1) (by omega) (by omega), show ((T a b i j : Nat) : Int) - 1 = ((T a b (x + 1) (y + 1) : Nat) : Int) by omega]
   simp
theorem tattingref7_Least_eq (a b : List Int) (ha : a.length ≤ 100000) (hb : b.length ≤ 100000) (l : List S28) (h : isLeast a b 0 0 l) : Ev (fun k => tattingref7_Least.f k a b) l := by
 unfold tattingref7_Least.f
 refine Ev.bind (tattingref7_Behind_eq a b ha hb) ?_
 have l0 : (behind a b).length = a.length + 1 := seq_length _ _
 have e3 : rd_L2 (behind a b) 0 = seq (b.length + 1) fun r => (T a b 0 r : Int) := rd_L2_seq _ (p := 0) (by omega) rfl
 have l1 : (seq (b.length + 1) fun r => (T a b 0 r : Int)).length = b.length + 1 := seq_length _ _
 have e4 := rd_seq (n := b.length + 1) (fun r => (T a b 0 r : Int)) (i := 0) (p := 0) (by omega) rfl
 have := tattingref7_Least_l0 a b ha hb l 0 0 [] (by omega) (by omega) (by simp) h
 refine Ev.congr (fun k => ?_) this
 simp (disch := omega) only [if_pos, e3, e4, l0, l1]
 rfl

theorem pair_ext {x y : S28} (h0 : x.f0 = y.f0) (h1 : x.f1 = y.f1) : x = y := by
 cases x; cases y; simp only at h0 h1; rw [h0, h1]
theorem tattingref1_SamePairs_l0 (a b : List S28) (ha : a.length ≤ 1000000) (hl : a.length = b.length) : ∀ (d k i : Nat), i + d = a.length → d < k →
  (a.drop i = b.drop i → tattingref1_SamePairs.l0 k a b i = some true) ∧ (a.drop i ≠ b.drop i → tattingref1_SamePairs.l0 k a b i = some false) := by
 intro d
 induction d with
 | zero =>
  intro k i hi hk
  obtain ⟨k, rfl⟩ : ∃ m, k = m + 1 := ⟨k - 1, by omega⟩
  rw [List.drop_eq_nil_of_le (by omega), List.drop_eq_nil_of_le (by omega), tattingref1_SamePairs.l0, if_neg (by omega)]
  simp
 | succ d ih =>
  intro k i hi hk
  obtain ⟨k, rfl⟩ : ∃ m, k = m + 1 := ⟨k - 1, by omega⟩
  obtain ⟨h1, h2⟩ := ih k (i + 1) (by omega) (by omega)
  simp only [Int.natCast_add, Int.cast_ofNat_Int] at h1 h2
  have e1 : rd_T28 a (i : Int) = a.getD i z28 := rfl
  have e2 : rd_T28 b (i : Int) = b.getD i z28 := rfl
  rw [drop_getD_pair (show i < a.length by omega), drop_getD_pair (show i < b.length by omega), tattingref1_SamePairs.l0, if_pos (by omega), if_pos (by omega), if_pos (by omega), e1, e2, wr (by omega) (by omega)]
  generalize a.getD i z28 = x at *
  generalize b.getD i z28 = y at *
  by_cases c0 : x.f0 = y.f0
  ·by_cases c1 : x.f1 = y.f1
   ·have e : x = y := pair_ext c0 c1
    have t : (!(x.f0 == y.f0) || !(x.f1 == y.f1)) = false := by rw [beq_iff_eq.2 c0, beq_iff_eq.2 c1]; rfl
    rw [t, ift]
    refine ⟨fun h => h1 (List.cons.inj h).2, fun h => h2 fun h' => h (by rw [e, h'])⟩
   ·have t : (!(x.f0 == y.f0) || !(x.f1 == y.f1)) = true := by rw [beq_eq_false_iff_ne.2 c1]; simp
    rw [t, itt]
    exact ⟨fun h => absurd (congrArg S28.f1 (List.cons.inj h).1) c1, fun _ => rfl⟩
  ·have t : (!(x.f0 == y.f0) || !(x.f1 == y.f1)) = true := by rw [beq_eq_false_iff_ne.2 c0]; simp
   rw [t, itt]
   exact ⟨fun h => absurd (congrArg S28.f0 (List.cons.inj h).1) c0, fun _ => rfl⟩
theorem tattingref1_SamePairs_same (a : List S28) (ha : a.length ≤ 1000000) (k : Nat) (hk : a.length < k) : tattingref1_SamePairs.f k a a = some true := by
 unfold tattingref1_SamePairs.f
 rw [if_pos rfl]
 exact (tattingref1_SamePairs_l0 a a ha rfl a.length k 0 (by omega) hk).1 rfl
def turnP (l : List S28) : List S28 := l.map fun p => ⟨p.f1, p.f0⟩
def moveP (i j : Int) (l : List S28) : List S28 := l.map fun p => ⟨wrap64 (p.f0 + i), wrap64 (p.f1 + j)⟩
theorem turnP_length (l : List S28) : (turnP l).length = l.length := by simp [turnP]
theorem moveP_length (i j : Int) (l : List S28) : (moveP i j l).length = l.length := by simp [moveP]
theorem good_turn (a b : List Int) : ∀ (l : List S28) (p q : Int), good b a q p (turnP l) = good a b p q l
 | [], _, _ => rfl
 | x :: l, p, q => by
  rw [Bool.eq_iff_iff]
  unfold turnP
  rw [List.map_cons, good_cons, good_cons, okPair_iff, okPair_iff]
  have h := good_turn a b l x.f0 x.f1
  unfold turnP at h
  rw [h]
  exact ⟨fun ⟨⟨h1, h2, h3, h4, h5, h6, h7⟩, h8⟩ => ⟨⟨h3, h4, h1, h2, h5.symm, h7, h6⟩, h8⟩, fun ⟨⟨h1, h2, h3, h4, h5, h6, h7⟩, h8⟩ => ⟨⟨h3, h4, h1, h2, h5.symm, h7, h6⟩, h8⟩⟩
theorem rd_ahead (u a : List Int) (i : Int) (n : Nat) (hu : u.length = n) (h : 0 ≤ i) : rd (u ++ a) (i + n) = rd a i := by
 obtain ⟨p, rfl⟩ := Int.eq_ofNat_of_zero_le h
 rw [show (p : Int) + n = ((n + p : Nat) : Int) by omega, rd_nat, rd_nat, List.getD_eq_getElem?_getD, List.getD_eq_getElem?_getD, List.getElem?_append_right (by omega)]
 congr 2; omega
theorem good_move (a b u v : List Int) (n m : Nat) (hu : u.length = n) (hv : v.length = m) (ha : a.length ≤ 1000000) (hb : b.length ≤ 1000000) (hn : n ≤ 1000000) (hm : m ≤ 1000000) : ∀ (l : List S28) (p q : Int), good a b p q l = true → good (u ++ a) (v ++ b) (p + n) (q + m) (moveP n m l) = true
 | [], _, _, _ => rfl
 | x :: l, p, q, h => by
  unfold moveP
  rw [List.map_cons]
  rw [good_cons, okPair_iff] at h ⊢
  obtain ⟨⟨h1, h2, h3, h4, h5, h6, h7⟩, h8⟩ := h
  have ih := good_move a b u v n m hu hv ha hb hn hm l x.f0 x.f1 h8
  unfold moveP at ih
  rw [wr (by omega) (by omega), wr (by omega) (by omega)]
  dsimp only
  rw [rd_ahead u a x.f0 n hu h1, rd_ahead v b x.f1 m hv h3, List.length_append, List.length_append]
  exact ⟨⟨by omega, by omega, by omega, by omega, h5, by omega, by omega⟩, ih⟩
theorem take_getD_pair {xs : List S28} {i : Nat} (h : i < xs.length) : xs.take (i + 1) = xs.take i ++ [xs.getD i z28] := by
 rw [List.take_succ_eq_append_getElem h]; simp [List.getD_eq_getElem?_getD, h]
theorem pairs_is_eq (a : List Int) (i : Int) : pairs_is.f a i = some (decide (0 ≤ i ∧ i < a.length)) := by
 unfold pairs_is.f
 by_cases h : i ≥ 0
 ·rw [if_pos h]; congr 1; rw [decide_eq_decide]; omega
 ·rw [if_neg h]; congr 1; symm; exact decide_eq_false (by omega)
theorem pairs_Good_l0 (a b : List Int) (l : List S28) (hl : l.length ≤ 1000000) : ∀ (d k p : Nat) (li lj : Int), p + d = l.length → d < k →
  pairs_Good.l0 k a b l l.length p li lj = some (good a b li lj (l.drop p)) := by
 intro d
 induction d with
 | zero =>
  intro k p li lj hp hk
  obtain ⟨k, rfl⟩ : ∃ m, k = m + 1 := ⟨k - 1, by omega⟩
  rw [pairs_Good.l0, if_neg (by omega), List.drop_eq_nil_of_le (by omega)]
  rfl
 | succ d ih =>
  intro k p li lj hp hk
  obtain ⟨k, rfl⟩ : ∃ m, k = m + 1 := ⟨k - 1, by omega⟩
  have e1 : rd_T28 l (p : Int) = l.getD p z28 := rfl
  rw [drop_getD_pair (show p < l.length by omega)]
  rw [pairs_Good.l0, if_pos (by omega), if_pos (by omega), if_pos (by omega), e1]
  generalize l.getD p z28 = x at *
  have h4 := ih k (p + 1) x.f0 x.f1 (by omega) (by omega)
  simp only [Int.natCast_add, Int.cast_ofNat_Int] at h4
  rw [pairs_is_eq, bs]
  by_cases c1 : 0 ≤ x.f0 ∧ x.f0 < a.length
  ·rw [decide_eq_true c1, itt, pairs_is_eq, bs]
   by_cases c2 : 0 ≤ x.f1 ∧ x.f1 < b.length
   ·rw [decide_eq_true c2, itt, if_pos c1.1, if_pos c1.2, if_pos c2.1, if_pos c2.2]
    by_cases c5 : rd a x.f0 = rd b x.f1
    ·rw [if_pos c5]
     by_cases c7 : x.f0 ≤ li
     ·rw [if_pos c7]
      symm; congr 1; rw [← Bool.not_eq_true, good_cons, okPair_iff]; omega
     rw [if_neg c7]
     by_cases c8 : x.f1 ≤ lj
     ·rw [if_pos c8]
      symm; congr 1; rw [← Bool.not_eq_true, good_cons, okPair_iff]; omega
     rw [if_neg c8, wr (by omega) (by omega), h4]
     congr 1
     rw [Bool.eq_iff_iff, good_cons, okPair_iff]
     exact ⟨fun h => ⟨⟨by omega, by omega, by omega, by omega, c5, by omega, by omega⟩, h⟩, fun h => h.2⟩
    ·rw [if_neg c5]
     symm; congr 1; rw [← Bool.not_eq_true, good_cons, okPair_iff]; exact fun h => c5 h.1.2.2.2.2.1
   ·rw [decide_eq_false c2, ift]
    symm; congr 1; rw [← Bool.not_eq_true, good_cons, okPair_iff]; omega
  ·rw [decide_eq_false c1, ift]
   symm; congr 1; rw [← Bool.not_eq_true, good_cons, okPair_iff]; omega
theorem pairs_Good_eq (a b : List Int) (l : List S28) (hl : l.length ≤ 1000000) (k : Nat) (hk : l.length < k) : pairs_Good.f k a b l = some (good a b (-1) (-1) l) := by
 have := pairs_Good_l0 a b l hl l.length k 0 (-1) (-1) (by omega) hk
 unfold pairs_Good.f
 simpa using this

theorem tattingref7_Turn_l0 (l : List S28) (hl : l.length ≤ 1000000) : ∀ (d k p : Nat), p + d = l.length → d < k →
  tattingref7_Turn.l0 k l (turnP (l.take p)) p = some (turnP l) := by
 intro d
 induction d with
 | zero =>
  intro k p hp hk
  obtain ⟨k, rfl⟩ : ∃ m, k = m + 1 := ⟨k - 1, by omega⟩
  rw [tattingref7_Turn.l0, if_neg (by omega), List.take_of_length_le (by omega)]
 | succ d ih =>
  intro k p hp hk
  obtain ⟨k, rfl⟩ : ∃ m, k = m + 1 := ⟨k - 1, by omega⟩
  have e1 : rd_T28 l (p : Int) = l.getD p z28 := rfl
  have h4 := ih k (p + 1) (by omega) (by omega)
  have hA : (turnP (l.take p)).length = p := by rw [turnP_length]; simp; omega
  rw [tattingref7_Turn.l0, if_pos (by omega), if_pos (by omega), if_pos (by omega), e1, wr (by omega) (by omega)]
  rw [take_getD_pair (show p < l.length by omega)] at h4
  unfold turnP at h4 ⊢
  rw [List.map_append] at h4
  exact_mod_cast h4
theorem tattingref7_Turn_eq (l : List S28) (hl : l.length ≤ 1000000) (k : Nat) (hk : l.length < k) : tattingref7_Turn.f k l = some (turnP l) := by
 have := tattingref7_Turn_l0 l hl l.length k 0 (by omega) hk
 unfold tattingref7_Turn.f
 simpa [turnP] using this

/-! Chapter 11's halves: a longest list, cut at a place where both halves' rows add up to most. -/
theorem good_app {a b : List Int} {h t : Nat} {l2 : List S28} (h2 : good a b ((h : Int) - 1) ((t : Int) - 1) l2 = true) : ∀ (l1 : List S28) (p q : Int), good (a.take h) (b.take t) p q l1 = true → p ≤ (h : Int) - 1 → q ≤ (t : Int) - 1 → good a b p q (l1 ++ l2) = true
 | [], p, q, _, hp, hq => good_weaken hp hq h2
 | x :: l1, p, q, h1, hp, hq => by
  rw [List.cons_append]
  rw [good_cons, okPair_iff] at h1 ⊢
  obtain ⟨⟨g1, g2, g3, g4, g5, g6, g7⟩, g8⟩ := h1
  rw [List.length_take] at g2 g4
  have e1 : rd (a.take h) x.f0 = rd a x.f0 := by
   obtain ⟨n, hn⟩ := Int.eq_ofNat_of_zero_le g1
   rw [hn, rd_nat, rd_nat, List.getD_eq_getElem?_getD, List.getD_eq_getElem?_getD, List.getElem?_take, if_pos (by omega)]
  have e2 : rd (b.take t) x.f1 = rd b x.f1 := by
   obtain ⟨n, hn⟩ := Int.eq_ofNat_of_zero_le g3
   rw [hn, rd_nat, rd_nat, List.getD_eq_getElem?_getD, List.getD_eq_getElem?_getD, List.getElem?_take, if_pos (by omega)]
  rw [e1, e2] at g5
  exact ⟨⟨g1, by omega, g3, by omega, g5, g6, g7⟩, good_app h2 l1 x.f0 x.f1 g8 (by omega) (by omega)⟩
theorem good_max {a b : List Int} {l : List S28} (h : good a b (-1) (-1) l = true) : l.length ≤ lcs a b := good_len l 0 0 h
theorem good_pl {a b : List Int} : ∀ {l : List S28} {p q : Int}, good a b p q l = true → ∀ x ∈ l, 0 ≤ x.f0 ∧ x.f0 < a.length ∧ 0 ≤ x.f1 ∧ x.f1 < b.length
 | [], _, _, _, x, hx => absurd hx (by simp)
 | y :: l, p, q, h, x, hx => by
  rw [good_cons, okPair_iff] at h
  rcases List.mem_cons.1 hx with rfl | hx
  ·exact ⟨h.1.1, h.1.2.1, h.1.2.2.1, h.1.2.2.2.1⟩
  ·exact good_pl h.2 x hx
/-- Split: the first place where both add up to most. -/
theorem Split_l0 (m : Nat) (F G : Nat → Nat) (hm : m ≤ 1000000) (hF : ∀ q, F q ≤ 1000000) (hG : ∀ q, G q ≤ 1000000) : ∀ (d k j p : Nat), j + d = m + 1 → p ≤ m → d < k → (∀ q, q < j → F q + G q ≤ F p + G p) →
  ∃ r : Nat, ∃ c : Int, r ≤ m ∧ tattingref7_Split.l0 k (seq (m + 1) fun q => (F q : Int)) (seq (m + 1) fun q => (G q : Int)) p j = some ((r : Int), c) ∧ ∀ q, q ≤ m → F q + G q ≤ F r + G r := by
 have l1 : (seq (m + 1) fun q => (F q : Int)).length = m + 1 := seq_length _ _
 have l2 : (seq (m + 1) fun q => (G q : Int)).length = m + 1 := seq_length _ _
 intro d
 induction d with
 | zero =>
  intro k j p hj hp hk hmost
  obtain ⟨k, rfl⟩ : ∃ m, k = m + 1 := ⟨k - 1, by omega⟩
  refine ⟨p, wrap64 (rd (seq (m + 1) fun q => (F q : Int)) (p : Int) + rd (seq (m + 1) fun q => (G q : Int)) (p : Int)), hp, ?_, fun q hq => hmost q (by omega)⟩
  rw [tattingref7_Split.l0, if_neg (by omega), if_pos (by omega), if_pos (by omega), if_pos (by omega)]
 | succ d ih =>
  intro k j p hj hp hk hmost
  obtain ⟨k, rfl⟩ : ∃ m, k = m + 1 := ⟨k - 1, by omega⟩
  have e1 : rd (seq (m + 1) fun q => (F q : Int)) (j : Int) = F j := rd_seq _ (by omega) rfl
  have e2 : rd (seq (m + 1) fun q => (G q : Int)) (j : Int) = G j := rd_seq _ (by omega) rfl
  have e3 : rd (seq (m + 1) fun q => (F q : Int)) (p : Int) = F p := rd_seq _ (by omega) rfl
  have e4 : rd (seq (m + 1) fun q => (G q : Int)) (p : Int) = G p := rd_seq _ (by omega) rfl
  have b1 := hF j
  have b2 := hG j
  have b3 := hF p
  have b4 := hG p
  have head : tattingref7_Split.l0 (k + 1) (seq (m + 1) fun q => (F q : Int)) (seq (m + 1) fun q => (G q : Int)) p j = if ((F j : Int) + G j) > (F p + G p) then tattingref7_Split.l0 k (seq (m + 1) fun q => (F q : Int)) (seq (m + 1) fun q => (G q : Int)) j ((j + 1 : Nat) : Int) else tattingref7_Split.l0 k (seq (m + 1) fun q => (F q : Int)) (seq (m + 1) fun q => (G q : Int)) p ((j + 1 : Nat) : Int) := by
   rw [tattingref7_Split.l0, if_pos (by omega), if_pos (by omega), if_pos (by omega), if_pos (by omega), if_pos (by omega), if_pos (by omega), e1, e2, e3, e4, wr (x := (F j : Int) + G j) (by omega) (by omega), wr (x := (F p : Int) + G p) (by omega) (by omega), wr (x := (j : Int) + 1) (by omega) (by omega)]
   rfl
  clear e1 e2 e3 e4
  by_cases c : ((F j : Int) + G j) > (F p + G p)
  ·obtain ⟨r, z, h1, h2, h3⟩ := ih k (j + 1) j (by omega) (by omega) (by omega) (fun q hq => by
    by_cases e : q = j
    ·subst e; exact Nat.le_refl _
    ·have := hmost q (by omega); omega)
   refine ⟨r, z, h1, ?_, h3⟩
   rw [head, if_pos c]; exact h2
  ·obtain ⟨r, z, h1, h2, h3⟩ := ih k (j + 1) p (by omega) (by omega) (by omega) (fun q hq => by
    by_cases e : q = j
    ·subst e; omega
    ·exact hmost q (by omega))
   refine ⟨r, z, h1, ?_, h3⟩
   rw [head, if_neg c]; exact h2
theorem Split_eq (m : Nat) (F G : Nat → Nat) (hm : m ≤ 1000000) (hF : ∀ q, F q ≤ 1000000) (hG : ∀ q, G q ≤ 1000000) (k : Nat) (hk : m + 2 < k) :
  ∃ r : Nat, ∃ c : Int, r ≤ m ∧ tattingref7_Split.f k (seq (m + 1) fun q => (F q : Int)) (seq (m + 1) fun q => (G q : Int)) = some ((r : Int), c) ∧ ∀ q, q ≤ m → F q + G q ≤ F r + G r := by
 have l1 : (seq (m + 1) fun q => (F q : Int)).length = m + 1 := seq_length _ _
 have l2 : (seq (m + 1) fun q => (G q : Int)).length = m + 1 := seq_length _ _
 obtain ⟨k, rfl⟩ : ∃ m, k = m + 1 := ⟨k - 1, by omega⟩
 obtain ⟨r, c, h1, h2, h3⟩ := Split_l0 m F G hm hF hG m k 1 0 (by omega) (by omega) (by omega) (fun q hq => by
  have : q = 0 := by omega
  subst this; exact Nat.le_refl _)
 refine ⟨r, c, h1, ?_, h3⟩
 have e : ((((m + 1 : Nat) : Int)) == 0) = false := beq_eq_false_iff_ne.mpr (by omega)
 unfold tattingref7_Split.f
 rw [l1, l2, if_pos rfl, e, tattingref7_Split.j0, ift]
 exact h2
theorem Front_eq (a b : List Int) (ha : a.length ≤ 100000) (hb : b.length ≤ 100000) : Ev (fun k => tattingref7_Front.f k a b) (seq (b.length + 1) fun q => (H a b a.length q : Int)) := by
 unfold tattingref7_Front.f
 refine Ev.bind (tattingref7_Ahead_eq a b ha hb) ?_
 refine Ev.congr (fun k => ?_) (Ev.now _)
 have l0 : (ahead a b).length = a.length + 1 := seq_length _ _
 have e3 : rd_L2 (ahead a b) (a.length : Int) = seq (b.length + 1) fun q => (H a b a.length q : Int) := rd_L2_seq _ (p := a.length) (by omega) rfl
 rw [if_pos (by omega), if_pos (by omega), e3]
theorem Back_eq (a b : List Int) (ha : a.length ≤ 100000) (hb : b.length ≤ 100000) : Ev (fun k => tattingref7_Back.f k a b) (seq (b.length + 1) fun q => (T a b 0 q : Int)) := by
 unfold tattingref7_Back.f
 refine Ev.bind (tattingref7_Behind_eq a b ha hb) ?_
 refine Ev.congr (fun k => ?_) (Ev.now _)
 have l0 : (behind a b).length = a.length + 1 := seq_length _ _
 have e3 : rd_L2 (behind a b) 0 = seq (b.length + 1) fun q => (T a b 0 q : Int) := rd_L2_seq _ (p := 0) (by omega) rfl
 rw [if_pos (by omega), e3]
theorem lcs_one_in {x : Int} {b : List Int} (h : x ∈ b) : lcs [x] b = 1 := by
 have h1 := lcs_ub [x] b [x] (List.Sublist.refl _) (List.singleton_sublist.2 h)
 have h2 := lcs_le_left [x] b
 simp at h1 h2; omega
theorem lcs_one_out {x : Int} {b : List Int} (h : x ∉ b) : lcs [x] b = 0 := by
 obtain ⟨s, h1, h2, h3⟩ := lcs_ex [x] b
 cases s with
 | nil => exact h3.symm
 | cons y s =>
  exfalso
  have hy : y ∈ [x] := h1.subset (by simp)
  have hy' : y ∈ b := h2.subset (by simp)
  rw [List.mem_singleton] at hy
  subst hy; exact h hy'
theorem Halves_l0 (x : Int) (b : List Int) (hb : b.length ≤ 100000) (i j : Int) (hj : 0 ≤ j) (hj' : j ≤ 1000000) : ∀ (d k p : Nat), p + d = b.length → d < k → (∀ q, q < p → b.getD q 0 ≠ x) →
  ∃ l : List S28, ∃ c : Int, tattingref7_Halves.l0 k [x] b i j b.length p = some (l.map (fun z => ⟨i + z.f0, wrap64 (j + z.f1)⟩), c) ∧ good [x] b (-1) (-1) l = true ∧ l.length = lcs [x] b := by
 intro d
 induction d with
 | zero =>
  intro k p hp hk hno
  obtain ⟨k, rfl⟩ : ∃ m, k = m + 1 := ⟨k - 1, by omega⟩
  refine ⟨[], b.length, ?_, rfl, ?_⟩
  ·rw [tattingref7_Halves.l0, if_neg (by omega)]; rfl
  ·rw [lcs_one_out]; rfl
   intro hx
   obtain ⟨q, hq, e⟩ := List.getElem_of_mem hx
   exact hno q (by omega) (by simp [List.getD_eq_getElem?_getD, hq, e])
 | succ d ih =>
  intro k p hp hk hno
  obtain ⟨k, rfl⟩ : ∃ m, k = m + 1 := ⟨k - 1, by omega⟩
  have e1 : rd [x] 0 = x := rfl
  by_cases c : b.getD p 0 = x
  ·refine ⟨[⟨0, p⟩], b.length, ?_, ?_, ?_⟩
   ·rw [tattingref7_Halves.l0, if_pos (by omega), if_pos (by omega), if_pos (by omega), if_pos (by simp), rd_nat, e1, if_pos c]
    simp
   ·rw [good_cons, okPair_iff]
    refine ⟨⟨by simp, by simp, by simp, by simp; omega, ?_, by simp, by simp; omega⟩, rfl⟩
    rw [e1, rd_nat, c]
   ·rw [lcs_one_in]; rfl
    have hp' : p < b.length := by omega
    have : b.getD p 0 = b[p] := by simp [List.getD_eq_getElem?_getD, hp']
    rw [← c, this]; exact List.getElem_mem hp'
  ·obtain ⟨l, z, h1, h2⟩ := ih k (p + 1) (by omega) (by omega) (fun q hq => by
    by_cases e : q = p
    ·subst e; exact c
    ·exact hno q (by omega))
   refine ⟨l, z, ?_, h2⟩
   rw [tattingref7_Halves.l0, if_pos (by omega), if_pos (by omega), if_pos (by omega), if_pos (by simp), rd_nat, e1, if_neg c, wr (x := (p : Int) + 1) (by omega) (by omega)]
   exact h1
theorem Halves_eq : ∀ (n : Nat) (a b : List Int) (i j : Nat), a.length ≤ n → a.length ≤ 10000 → b.length ≤ 10000 → i + a.length ≤ 20000 → j + b.length ≤ 20000 →
  ∃ l : List S28, ∃ c : Int, Ev (fun k => tattingref7_Halves.f k a b i j) (moveP i j l, c) ∧ good a b (-1) (-1) l = true ∧ l.length = lcs a b := by
 intro n
 induction n with
 | zero =>
  intro a b i j hn ha hb hi hj
  have e : a = [] := List.length_eq_zero_iff.1 (by omega)
  subst e
  refine ⟨[], 0, ?_, rfl, by simp⟩
  refine Ev.step (f := fun k => tattingref7_Halves.j0 k [] b i j 0 b.length true) (fun k => ?_) (Ev.step (f := fun _ => some _) (fun k => ?_) (Ev.now _))
  ·rw [tattingref7_Halves.f]; rfl
  ·rw [tattingref7_Halves.j0, if_pos rfl]; rfl
 | succ n ih =>
  intro a b i j hn ha hb hi hj
  by_cases a0 : a.length = 0
  ·exact ih a b i j (by omega) ha hb hi hj
  by_cases b0 : b.length = 0
  ·have e : b = [] := List.length_eq_zero_iff.1 (by omega)
   subst e
   refine ⟨[], 0, ?_, rfl, by simp⟩
   refine Ev.step (f := fun k => tattingref7_Halves.j0 k a [] i j a.length 0 true) (fun k => ?_) (Ev.step (f := fun _ => some _) (fun k => ?_) (Ev.now _))
   ·rw [tattingref7_Halves.f, if_neg (by omega)]; rfl
   ·rw [tattingref7_Halves.j0, if_pos rfl]; rfl
  have eb : ((b.length : Int) == 0) = false := beq_eq_false_iff_ne.mpr (by omega)
  by_cases a1 : a.length = 1
  ·obtain ⟨x, rfl⟩ := List.length_eq_one_iff.1 a1
   obtain ⟨l, c, h1, h2, h3⟩ := Halves_l0 x b (by omega) i j (by omega) (by omega) b.length (b.length + 1) 0 (by omega) (by omega) (fun q hq => by omega)
   refine ⟨l, c, ?_, h2, h3⟩
   have hl : (l.map fun z => (⟨(i : Int) + z.f0, wrap64 ((j : Int) + z.f1)⟩ : S28)) = moveP i j l := by
    unfold moveP
    refine List.map_congr_left fun z hz => ?_
    obtain ⟨g1, g2, g3, g4⟩ := good_pl h2 z hz
    rw [wr (x := z.f0 + (i : Int)) (by omega) (by omega), Int.add_comm (i : Int), Int.add_comm (j : Int)]
   rw [hl] at h1
   refine Ev.step (f := fun k => tattingref7_Halves.j0 k [x] b i j (([x] : List Int).length : Int) b.length false) (fun k => ?_) (Ev.step (f := fun k => tattingref7_Halves.l0 k [x] b i j b.length 0) (fun k => ?_) ?_)
   ·rw [tattingref7_Halves.f, if_neg (by simp), eb]
   ·rw [tattingref7_Halves.j0, if_neg (by simp), if_pos (by simp)]
   ·exact Ev.of (fun k => (tattingref7_Halves.mono_l k).2.2 _ _ _ _ _ _) h1
  have hh : ∀ _ : Unit, wrap64 (Int.tdiv (a.length : Int) 2) = ((a.length / 2 : Nat) : Int) := fun _ => by
   have := Int.tdiv_eq_ediv_of_nonneg (a := (a.length : Int)) (b := 2) (by omega)
   rw [this, wr (by omega) (by omega)]; omega
  have hpos : 1 ≤ a.length / 2 := by omega
  have hlt : a.length / 2 < a.length := by omega
  generalize a.length / 2 = h at hh hpos hlt
  have lt1 : (a.take h).length = h := by simp; omega
  have ld1 : (a.drop h).length = a.length - h := by simp
  have hF := Front_eq (a.take h) b (by omega) (by omega)
  have hB := Back_eq (a.drop h) b (by omega) (by omega)
  obtain ⟨r, c0, hr, hS, hmost⟩ := Split_eq b.length (fun q => H (a.take h) b (a.take h).length q) (fun q => T (a.drop h) b 0 q) (by omega) (fun q => by have := H_le_left (a.take h) b (a.take h).length q; omega) (fun q => by have := T_le_left (a.drop h) b 0 q; omega) (b.length + 3) (by omega)
  have lt2 : (b.take r).length = r := by simp; omega
  have ld2 : (b.drop r).length = b.length - r := by simp
  obtain ⟨l1, c1, e1, g1, n1⟩ := ih (a.take h) (b.take r) i j (by omega) (by omega) (by omega) (by omega) (by omega)
  obtain ⟨l2, c2, e2, g2, n2⟩ := ih (a.drop h) (b.drop r) (i + h) (j + r) (by omega) (by omega) (by omega) (by omega) (by omega)
  have g2' : good a b ((h : Int) - 1) ((r : Int) - 1) (moveP h r l2) = true := by
   have := good_move (a.drop h) (b.drop r) (a.take h) (b.take r) h r lt1 lt2 (by omega) (by omega) (by omega) (by omega) l2 (-1) (-1) g2
   rw [List.take_append_drop, List.take_append_drop] at this
   rw [show (h : Int) - 1 = -1 + h by omega, show (r : Int) - 1 = -1 + r by omega]; exact this
  have gg : good a b (-1) (-1) (l1 ++ moveP h r l2) = true := good_app g2' l1 (-1) (-1) g1 (by omega) (by omega)
  have hlen : (l1 ++ moveP h r l2).length = lcs a b := by
   refine Nat.le_antisymm (good_max gg) ?_
   obtain ⟨q, hq, hc⟩ := lcs_cut (a.take h) (a.drop h) b
   rw [List.take_append_drop] at hc
   have hm := hmost q hq
   have k1 : H (a.take h) b (a.take h).length q = lcs (a.take h) (b.take q) := by unfold H; rw [List.take_length]
   have k2 : H (a.take h) b (a.take h).length r = lcs (a.take h) (b.take r) := by unfold H; rw [List.take_length]
   have k3 : T (a.drop h) b 0 q = lcs (a.drop h) (b.drop q) := by unfold T; rw [List.drop_zero]
   have k4 : T (a.drop h) b 0 r = lcs (a.drop h) (b.drop r) := by unfold T; rw [List.drop_zero]
   (try dsimp only at hm)
   rw [k1, k2, k3, k4] at hm
   rw [List.length_append, moveP_length]; omega
  have hmv : moveP ((i + h : Nat) : Int) ((j + r : Nat) : Int) l2 = moveP i j (moveP h r l2) := by
   unfold moveP
   rw [List.map_map]
   refine List.map_congr_left fun z hz => ?_
   obtain ⟨q1, q2, q3, q4⟩ := good_pl g2 z hz
   dsimp only [Function.comp]
   rw [wr (x := z.f0 + (h : Int)) (by omega) (by omega), wr (x := z.f1 + (r : Int)) (by omega) (by omega), wr (x := z.f0 + ((i + h : Nat) : Int)) (by omega) (by omega), wr (x := z.f1 + ((j + r : Nat) : Int)) (by omega) (by omega), wr (x := z.f0 + (h : Int) + (i : Int)) (by omega) (by omega), wr (x := z.f1 + (r : Int) + (j : Int)) (by omega) (by omega)]
   rw [show z.f0 + ((i + h : Nat) : Int) = z.f0 + h + i by omega, show z.f1 + ((j + r : Nat) : Int) = z.f1 + r + j by omega]
  have happ : moveP i j l1 ++ moveP ((i + h : Nat) : Int) ((j + r : Nat) : Int) l2 = moveP i j (l1 ++ moveP h r l2) := by
   rw [hmv]; unfold moveP; rw [List.map_append]
  have len1 := good_max g1
  have len2 := good_max g2
  have t1 := lcs_le_left (a.take h) (b.take r)
  have t2 := lcs_le_left (a.drop h) (b.drop r)
  refine ⟨l1 ++ moveP h r l2, wrap64 (wrap64 (wrap64 ((a.length : Int) * b.length) + c1) + c2), ?_, gg, hlen⟩
  rw [← happ]
  refine Ev.step (f := fun k => tattingref7_Halves.j0 k a b i j a.length b.length false) (fun k => ?_) ?_
  ·rw [tattingref7_Halves.f, if_neg (by omega), eb]
  have hS' : Ev (fun k => tattingref7_Split.f k (seq (b.length + 1) fun q => (H (a.take h) b (a.take h).length q : Int)) (seq (b.length + 1) fun q => (T (a.drop h) b 0 q : Int))) ((r : Int), c0) := Ev.of (fun k => tattingref7_Split.mono _ _ k) hS
  obtain ⟨K1, f1⟩ := hF
  obtain ⟨K2, f2⟩ := hB
  obtain ⟨K3, f3⟩ := hS'
  obtain ⟨K4, f4⟩ := e1
  obtain ⟨K5, f5⟩ := e2
  refine ⟨K1 + K2 + K3 + K4 + K5 + 1, fun k hk => ?_⟩
  obtain ⟨k, rfl⟩ : ∃ m, k = m + 1 := ⟨k - 1, by omega⟩
  have f1 : tattingref7_Front.f k (a.take h) b = some _ := f1 k (by omega)
  have f2 : tattingref7_Back.f k (a.drop h) b = some _ := f2 k (by omega)
  have f3 : tattingref7_Split.f k _ _ = some _ := f3 k (by omega)
  have f4 : tattingref7_Halves.f k (a.take h) (b.take r) i j = some _ := f4 k (by omega)
  have f5 : tattingref7_Halves.f k (a.drop h) (b.drop r) ((i + h : Nat) : Int) ((j + r : Nat) : Int) = some _ := f5 k (by omega)
  have m1 := moveP_length (i : Int) j l1
  have m2 := moveP_length ((i + h : Nat) : Int) ((j + r : Nat) : Int) l2
  have s1 : (([] : List S28).length) + (moveP (i : Int) j l1).length < 8796093022208 := by rw [m1]; simp; omega
  have s2 : (moveP (i : Int) j l1).length + (moveP ((i + h : Nat) : Int) ((j + r : Nat) : Int) l2).length < 8796093022208 := by rw [m1, m2]; omega
  show tattingref7_Halves.j0 (k + 1) a b i j a.length b.length false = some _
  rw [tattingref7_Halves.j0, ift, if_neg (by omega), hh (), if_pos (by omega), if_pos (by omega), Int.toNat_natCast, f1, bs, f2, bs, f3, bs]
  dsimp only
  rw [if_pos (by omega), if_pos (by omega), Int.toNat_natCast, f4, bs, wr (x := (i : Int) + h) (by omega) (by omega), wr (x := (j : Int) + r) (by omega) (by omega), ← Int.natCast_add, ← Int.natCast_add, f5, bs, bs]
  dsimp only
  rw [if_pos s1, List.nil_append, bs, if_pos s2]

/-! A longest list of both lists turned round, told from their ends on. -/
def flipP (n m : Nat) (l : List S28) : List S28 := (l.map fun z => (⟨(n : Int) - 1 - z.f0, (m : Int) - 1 - z.f1⟩ : S28)).reverse
theorem flipP_length (n m : Nat) (l : List S28) : (flipP n m l).length = l.length := by simp [flipP]
theorem good_snoc {a b : List Int} (y : S28) : ∀ (l : List S28) (p q : Int), good a b p q l = true → (∀ z ∈ l, z.f0 < y.f0 ∧ z.f1 < y.f1) → okPair a b p q y = true → good a b p q (l ++ [y]) = true
 | [], p, q, _, _, hy => by
  rw [List.nil_append, good_cons]; exact ⟨hy, rfl⟩
 | x :: l, p, q, h, hl, hy => by
  rw [List.cons_append]
  rw [good_cons] at h ⊢
  refine ⟨h.1, good_snoc y l x.f0 x.f1 h.2 (fun z hz => hl z (by simp [hz])) ?_⟩
  have hx := hl x (by simp)
  rw [okPair_iff] at hy ⊢
  obtain ⟨h1, h2, h3, h4, h5, h6, h7⟩ := hy
  exact ⟨h1, h2, h3, h4, h5, hx.1, hx.2⟩
theorem rd_rev (a : List Int) (i : Int) (h : 0 ≤ i) (h' : i < a.length) : rd a ((a.length : Int) - 1 - i) = rd a.reverse i := by
 obtain ⟨p, rfl⟩ := Int.eq_ofNat_of_zero_le h
 rw [show (a.length : Int) - 1 - p = ((a.length - 1 - p : Nat) : Int) by omega, rd_nat, rd_nat, List.getD_eq_getElem?_getD, List.getD_eq_getElem?_getD, List.getElem?_reverse (by omega)]
theorem flip_good {a b : List Int} : ∀ (l : List S28) (p q : Int), -1 ≤ p → -1 ≤ q → good a.reverse b.reverse p q l = true →
  good a b (-1) (-1) (flipP a.length b.length l) = true ∧ ∀ z ∈ flipP a.length b.length l, z.f0 < (a.length : Int) - 1 - p ∧ z.f1 < (b.length : Int) - 1 - q
 | [], p, q, _, _, _ => ⟨rfl, fun z hz => absurd hz (by simp [flipP])⟩
 | x :: l, p, q, hp, hq, h => by
  rw [good_cons, okPair_iff] at h
  obtain ⟨⟨h1, h2, h3, h4, h5, h6, h7⟩, h8⟩ := h
  obtain ⟨i1, i2⟩ := flip_good l x.f0 x.f1 (by omega) (by omega) h8
  have e : flipP a.length b.length (x :: l) = flipP a.length b.length l ++ [⟨(a.length : Int) - 1 - x.f0, (b.length : Int) - 1 - x.f1⟩] := by
   simp [flipP]
  rw [List.length_reverse] at h2 h4
  rw [e]
  refine ⟨good_snoc _ _ _ _ i1 (fun z hz => i2 z hz) ?_, fun z hz => ?_⟩
  ·rw [okPair_iff]
   dsimp only
   rw [rd_rev a x.f0 h1 (by omega), rd_rev b x.f1 h3 (by omega)]
   exact ⟨by omega, by omega, by omega, by omega, h5, by omega, by omega⟩
  ·rcases List.mem_append.1 hz with hz | hz
   ·have := i2 z hz; omega
   ·rw [List.mem_singleton] at hz
    subst hz
    dsimp only; omega

theorem awake_ev : ∃ K, tattinglaw23_awake.f K = some true := ⟨400, by decide +kernel⟩
theorem CanonAny_l0 (x y : List Int) (w h r : List S28) (hx : x.length ≤ 30) (hy : y.length ≤ 30) (hr : r.length ≤ 1000) (hg : good x.reverse y.reverse (-1) (-1) r = true) {R : Bool} (he : Ev (fun k => tattinglaw23_CanonAny.l0 k x y w h (flipP x.length y.length r) r (-1)) R) : ∀ (i : Nat), i ≤ r.length →
  Ev (fun k => tattinglaw23_CanonAny.l0 k x y w h (flipP x.length y.length (r.drop i)) r ((i : Int) - 1)) R := by
 intro i
 induction i with
 | zero => intro _; simpa using he
 | succ i ih =>
  intro hi
  have h1 := ih (by omega)
  refine Ev.step (fun k => ?_) h1
  have e1 : rd_T28 r (i : Int) = r.getD i z28 := rfl
  have hm : r.getD i z28 ∈ r := by
   have hi' : i < r.length := by omega
   have : r.getD i z28 = r[i] := by simp [List.getD_eq_getElem?_getD, hi']
   rw [this]; exact List.getElem_mem hi'
  obtain ⟨q1, q2, q3, q4⟩ := good_pl hg _ hm
  rw [List.length_reverse] at q2 q4
  have hf := flipP_length x.length y.length (r.drop (i + 1))
  have hfl : flipP x.length y.length (r.drop i) = flipP x.length y.length (r.drop (i + 1)) ++ [⟨(x.length : Int) - 1 - (r.getD i z28).f0, (y.length : Int) - 1 - (r.getD i z28).f1⟩] := by
   rw [drop_getD_pair (show i < r.length by omega)]; simp [flipP]
  have hl : (flipP x.length y.length (r.drop (i + 1))).length < 8796093022208 := by rw [hf]; simp; omega
  rw [show ((i + 1 : Nat) : Int) - 1 = (i : Int) by omega, tattinglaw23_CanonAny.l0, if_pos (by omega), if_pos (by omega), if_pos (by omega), if_pos hl, e1, hfl]
  generalize r.getD i z28 = z at *
  rw [wr (x := (x.length : Int) - 1) (by omega) (by omega), wr (x := (y.length : Int) - 1) (by omega) (by omega), wr (x := (i : Int) - 1) (by omega) (by omega), wr (by omega) (by omega), wr (by omega) (by omega)]
theorem law_CanonAny : tattinglaw23_CanonAny.Pure := by
 intro a b _ _ _ _ _ _
 have haw : Ev tattinglaw23_awake.f true := by
  obtain ⟨K, h⟩ := awake_ev
  exact Ev.of tattinglaw23_awake.mono h
 refine Ev.rounds (g := fun K => tattinglaw23_CanonAny.f K a b) ?_
 unfold tattinglaw23_CanonAny.f
 refine Ev.bind haw ?_
 simp only [itt, ifT]
 by_cases ha : (a.length : Int) > 30
 ·refine Ev.step (f := fun _ => some true) (fun K => ?_) (Ev.now _)
  rw [if_pos ha, tattinglaw23_CanonAny.j0, itt]
 by_cases hb : (b.length : Int) > 30
 ·refine Ev.step (f := fun _ => some true) (fun K => ?_) (Ev.now _)
  rw [if_neg ha, decide_eq_true hb, tattinglaw23_CanonAny.j0, itt]
 simp only [if_neg ha, decide_eq_false hb]
 have la := few_length a 3
 have lb := few_length b 3
 have fa := fun k hk => tattingref1_Few_eq a 3 (by omega) (by omega) (by omega) k hk
 have fb := fun k hk => tattingref1_Few_eq b 3 (by omega) (by omega) (by omega) k hk
 generalize few a 3 = x at *
 generalize few b 3 = y at *
 have lx : x.reverse.length = x.length := List.length_reverse
 have ly : y.reverse.length = y.length := List.length_reverse
 obtain ⟨l, hl⟩ := isLeast_ex x y _ 0 0 rfl
 obtain ⟨l', hl'⟩ := isLeast_ex y x _ 0 0 rfl
 obtain ⟨r, hr⟩ := isLeast_ex x.reverse y.reverse _ 0 0 rfl
 have hlen := isLeast_len hl
 have hlen' := isLeast_len hl'
 have rlen := isLeast_len hr
 rw [T_zero] at hlen hlen' rlen
 rw [lcs_reverse] at rlen
 have t1 := lcs_le_left x y
 have t2 := lcs_comm y x
 have rgood : good x.reverse y.reverse (-1) (-1) r = true := isLeast_good hr
 obtain ⟨fg, _⟩ := flip_good r (-1) (-1) (by omega) (by omega) rgood
 have fl := flipP_length x.length y.length r
 obtain ⟨h, c, eh, gh, lh⟩ := Halves_eq x.length x y 0 0 (Nat.le_refl _) (by omega) (by omega) (by omega) (by omega)
 have h00 : moveP ((0 : Nat) : Int) ((0 : Nat) : Int) h = h := by
  unfold moveP
  refine (List.map_congr_left fun z hz => ?_).trans (List.map_id h)
  obtain ⟨q1, q2, q3, q4⟩ := good_pl gh z hz
  show (⟨wrap64 (z.f0 + ((0 : Nat) : Int)), wrap64 (z.f1 + ((0 : Nat) : Int))⟩ : S28) = z
  rw [wr (by omega) (by omega), wr (by omega) (by omega)]
  cases z; simp
 rw [h00] at eh
 obtain ⟨K1, h1⟩ := tattingref7_Least_eq x y (by omega) (by omega) l hl
 obtain ⟨K2, h2⟩ := least_Of_eq x y (by omega) (by omega) l hl
 obtain ⟨K3, h3⟩ := grid_Len_eq x y (by omega) (by omega)
 obtain ⟨K4, h4⟩ := tattingref7_Least_eq y x (by omega) (by omega) l' hl'
 obtain ⟨K5, h5⟩ := least_Of_eq y x (by omega) (by omega) l' hl'
 obtain ⟨K6, h6⟩ := grid_Len_eq y x (by omega) (by omega)
 obtain ⟨K7, h7⟩ := tattingref7_Least_eq x.reverse y.reverse (by omega) (by omega) r hr
 obtain ⟨K8, h8⟩ := eh
 have hend : Ev (fun k => tattinglaw23_CanonAny.l0 k x y l h (flipP x.length y.length r) r (-1)) true := by
  refine ⟨1000 + K1 + K2 + K3 + K4 + K5 + K6, fun K hK => ?_⟩
  obtain ⟨K, rfl⟩ : ∃ m, K = m + 1 := ⟨K - 1, by omega⟩
  have e2 : least_Of.f K x y = some _ := h2 K (by omega)
  have e3 : grid_Len.f K x y = some _ := h3 K (by omega)
  have e4 : tattingref7_Least.f K y x = some _ := h4 K (by omega)
  have e5 : least_Of.f K y x = some _ := h5 K (by omega)
  have e6 : grid_Len.f K y x = some _ := h6 K (by omega)
  have g1 : canon_Of.f K x y h = some (l, 0) := by
   unfold canon_Of.f
   rw [pairs_Good_eq x y h (by omega) K (by omega), bs, if_pos gh, e3, bs, if_neg (by omega), e2, bs]
  have g2 : canon_Of.f K x y (flipP x.length y.length r) = some (l, 0) := by
   unfold canon_Of.f
   rw [pairs_Good_eq x y _ (by omega) K (by omega), bs, if_pos fg, e3, bs, if_neg (by omega), e2, bs]
  have gt : good y x (-1) (-1) (turnP (flipP x.length y.length r)) = true := by rw [good_turn]; exact fg
  have lt := turnP_length (flipP x.length y.length r)
  have g3 : canon_Of.f K y x (turnP (flipP x.length y.length r)) = some (l', 0) := by
   unfold canon_Of.f
   rw [pairs_Good_eq y x _ (by omega) K (by omega), bs, if_pos gt, e6, bs, if_neg (by omega), e5, bs]
  show tattinglaw23_CanonAny.l0 (K + 1) x y l h (flipP x.length y.length r) r (-1) = some true
  rw [tattinglaw23_CanonAny.l0, if_neg (by omega), g1, bs, g2, bs, tattingref7_Turn_eq _ (by omega) K (by omega), bs, g3, bs]
  dsimp only
  rw [if_pos rfl, if_pos rfl, if_pos rfl, tattingref1_SamePairs_same l (by omega) K (by omega), bs, if_pos rfl, bs, if_pos rfl, e4, bs, tattingref1_SamePairs_same l' (by omega) K (by omega), bs]
 obtain ⟨K9, h9⟩ := CanonAny_l0 x y l h r (by omega) (by omega) (by omega) rgood hend r.length (Nat.le_refl _)
 have hd : flipP x.length y.length (r.drop r.length) = [] := by rw [List.drop_length]; rfl
 rw [hd] at h9
 refine ⟨1000 + K1 + K7 + K8 + K9, fun K hK => ?_⟩
 obtain ⟨K, rfl⟩ : ∃ m, K = m + 1 := ⟨K - 1, by omega⟩
 have e1 : tattingref7_Least.f K x y = some _ := h1 K (by omega)
 have e7 : tattingref7_Least.f K x.reverse y.reverse = some _ := h7 K (by omega)
 have e8 : tattingref7_Halves.f K x y 0 0 = some _ := h8 K (by omega)
 have e9 : tattinglaw23_CanonAny.l0 K x y l h [] r ((r.length : Int) - 1) = some _ := h9 K (by omega)
 have f1 := fa K (by omega)
 have f2 := fb K (by omega)
 show tattinglaw23_CanonAny.j0 (K + 1) a b false = some true
 rw [tattinglaw23_CanonAny.j0, ift, f1, bs, f2, bs, e1, bs, e8, bs, tattingref7_Turned_eq x (by omega) K (by omega), bs, tattingref7_Turned_eq y (by omega) K (by omega), bs, e7, bs, wr (by omega) (by omega)]
 exact e9


theorem CanonAny : tattinglaw23_CanonAny.Pure := law_CanonAny

end Go.Proofs.Ytdegajidkboknaa.Pure
namespace Go.Proofs.Ytdegajidkboknaa.PrintWords
/-- The row's word under the name by which the row calls it. -/
abbrev sized_ints := @Go.Proofs.YtdegajidkboknaaW.PrintWords.sized_ints
end Go.Proofs.Ytdegajidkboknaa.PrintWords
