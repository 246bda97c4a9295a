/- One number more at an end makes the length 0 or 1 more: the law GridGrows holds, with no condition. -/
import Derived.Test.YtknfcipjbhhldaaPGridGrowsx6
import Derived.Test.YtknfcipjbhhldaaWSized
namespace Go.Proofs.Ytknfcipjbhhldaa.Pure
open Go.RowKit Go.Proofs.Ytknfcipjbhhldaa.PGridGrows Go.Proofs.YtknfcipjbhhldaaW.PrintWords Go.Proofs.YtknfcipjbhhldaaW.PrintLast Go.Proofs.YtknfcipjbhhldaaW.PrintMore
set_option linter.unusedVariables false
set_option linter.unusedSimpArgs false

/-! Words for the pure side: whole numbers that do not wrap, reads of lists. -/
theorem wr {x : Int} (h : -9223372036854775808 ≤ x) (h' : x < 9223372036854775808) : wrap64 x = x := by unfold wrap64; omega
theorem rd_nat (xs : List Int) (n : Nat) : rd xs (n : Int) = xs.getD n 0 := rfl
theorem rd_at {xs : List Int} {i : Int} {n : Nat} (h : i = (n : Int)) : rd xs i = xs.getD n 0 := by subst h; rfl
theorem drop_getD {xs : List Int} {i : Nat} (h : i < xs.length) : xs.drop i = xs.getD i 0 :: xs.drop (i + 1) := by
  rw [List.drop_eq_getElem_cons h]; simp [List.getD_eq_getElem?_getD, h]
theorem take_getD {xs : List Int} {i : Nat} (h : i < xs.length) : xs.take (i + 1) = xs.take i ++ [xs.getD i 0] := by
  rw [List.take_succ_eq_append_getElem h]; simp [List.getD_eq_getElem?_getD, h]

theorem lz_bind {α β : Type} {a a' : Option α} {f : α → Option β} (h : a = a') : a.bind f = a'.bind f := by rw [h]
theorem lz_ite {α : Type} {c c' : Prop} [s : Decidable c] [s' : Decidable c'] {t e : α} (h : c = c') : ite c t e = ite c' t e := by
  subst h; rw [Subsingleton.elim s s']
attribute [local congr] lz_bind lz_ite
theorem bs {α β : Type} (a : α) (f : α → Option β) : (some a).bind f = f a := by simp
theorem itt {α : Type} (t e : α) : (if (true = true) then t else e) = t := by simp
theorem ift {α : Type} (t e : α) : (if (false = true) then t else e) = e := by simp
theorem ifT {α : Type} (t e : α) : (if True then t else e) = t := by simp
theorem ifF {α : Type} (t e : α) : (if False then t else e) = e := by simp

/-! The longest common subsequence of two lists of whole numbers: no program in sight. -/

def lcs : List Int → List Int → Nat
  | [], _ => 0
  | _ :: _, [] => 0
  | a :: xt, b :: yt => if a = b then lcs xt yt + 1 else max (lcs xt (b :: yt)) (lcs (a :: xt) yt)
termination_by xs ys => xs.length + ys.length

@[simp] theorem lcs_nil_left (ys : List Int) : lcs [] ys = 0 := by cases ys <;> simp [lcs]
@[simp] theorem lcs_nil_right (xs : List Int) : lcs xs [] = 0 := by cases xs <;> simp [lcs]
theorem lcs_cons (a b : Int) (xt yt : List Int) : lcs (a :: xt) (b :: yt) = if a = b then lcs xt yt + 1 else max (lcs xt (b :: yt)) (lcs (a :: xt) yt) := by
  rw [lcs]

theorem lcs_ub (xs ys : List Int) : ∀ s : List Int, s.Sublist xs → s.Sublist ys → s.length ≤ lcs xs ys := by
  induction xs, ys using lcs.induct with
  | case1 ys => intro s h _; simp at h; subst h; simp
  | case2 a xt => intro s _ h; simp at h; subst h; simp
  | case3 xt b yt ih =>
    intro s h1 h2
    rw [lcs_cons, if_pos rfl]
    cases s with
    | nil => simp
    | cons c s =>
      have h1' : s.Sublist xt := by
        cases h1 with
        | cons _ h => exact (List.sublist_cons_self c s).trans h
        | cons_cons _ h => exact h
      have h2' : s.Sublist yt := by
        cases h2 with
        | cons _ h => exact (List.sublist_cons_self c s).trans h
        | cons_cons _ h => exact h
      have := ih s h1' h2'
      simp; omega
  | case4 a xt b yt hne ih1 ih2 =>
    intro s h1 h2
    rw [lcs_cons, if_neg hne]
    cases s with
    | nil => simp
    | cons c s =>
      by_cases hc : c = a
      · subst hc
        have h2' : (c :: s).Sublist yt := by
          cases h2 with
          | cons _ h => exact h
          | cons_cons _ h => exact absurd rfl hne
        have := ih2 _ h1 h2'
        omega
      · have h1' : (c :: s).Sublist xt := by
          cases h1 with
          | cons _ h => exact h
          | cons_cons _ h => exact absurd rfl hc
        have := ih1 _ h1' h2
        omega

theorem lcs_ex (xs ys : List Int) : ∃ s : List Int, s.Sublist xs ∧ s.Sublist ys ∧ s.length = lcs xs ys := by
  induction xs, ys using lcs.induct with
  | case1 ys => exact ⟨[], by simp⟩
  | case2 a xt => exact ⟨[], by simp⟩
  | case3 xt b yt ih =>
    obtain ⟨s, h1, h2, h3⟩ := ih
    exact ⟨b :: s, h1.cons_cons b, h2.cons_cons b, by rw [lcs_cons, if_pos rfl]; simp [h3]⟩
  | case4 a xt b yt hne ih1 ih2 =>
    rw [lcs_cons, if_neg hne]
    by_cases h : lcs (a :: xt) yt ≤ lcs xt (b :: yt)
    · obtain ⟨s, h1, h2, h3⟩ := ih1
      exact ⟨s, h1.cons a, h2, by omega⟩
    · obtain ⟨s, h1, h2, h3⟩ := ih2
      exact ⟨s, h1, h2.cons b, by omega⟩

theorem lcs_unique {xs ys : List Int} {n : Nat} (h : ∃ s : List Int, s.Sublist xs ∧ s.Sublist ys ∧ s.length = n) (h' : ∀ s : List Int, s.Sublist xs → s.Sublist ys → s.length ≤ n) : lcs xs ys = n := by
  obtain ⟨s, h1, h2, h3⟩ := h
  obtain ⟨t, h4, h5, h6⟩ := lcs_ex xs ys
  have := lcs_ub xs ys s h1 h2
  have := h' t h4 h5
  omega

theorem lcs_comm (xs ys : List Int) : lcs xs ys = lcs ys xs := by
  obtain ⟨s, h1, h2, h3⟩ := lcs_ex ys xs
  exact lcs_unique ⟨s, h2, h1, h3⟩ fun t a b => lcs_ub ys xs t b a

theorem lcs_reverse (xs ys : List Int) : lcs xs.reverse ys.reverse = lcs xs ys := by
  obtain ⟨s, h1, h2, h3⟩ := lcs_ex xs ys
  refine lcs_unique ⟨s.reverse, h1.reverse, h2.reverse, by simp [h3]⟩ fun t a b => ?_
  have := lcs_ub xs ys t.reverse (by simpa using a.reverse) (by simpa using b.reverse)
  simpa using this

theorem lcs_mono {xs xs' ys ys' : List Int} (h : xs.Sublist xs') (h' : ys.Sublist ys') : lcs xs ys ≤ lcs xs' ys' := by
  obtain ⟨s, h1, h2, h3⟩ := lcs_ex xs ys
  have := lcs_ub xs' ys' s (h1.trans h) (h2.trans h')
  omega

theorem lcs_le_left (xs ys : List Int) : lcs xs ys ≤ xs.length := by
  obtain ⟨s, h1, _, h3⟩ := lcs_ex xs ys
  have := h1.length_le
  omega
theorem lcs_le_right (xs ys : List Int) : lcs xs ys ≤ ys.length := by rw [lcs_comm]; exact lcs_le_left _ _

theorem lcs_self (xs : List Int) : lcs xs xs = xs.length := by
  have := lcs_ub xs xs xs (List.Sublist.refl _) (List.Sublist.refl _)
  have := lcs_le_left xs xs
  omega

theorem lcs_cons_same (a : Int) (xs ys : List Int) : lcs (a :: xs) (a :: ys) = lcs xs ys + 1 := by rw [lcs_cons, if_pos rfl]

theorem lcs_cons_le (a : Int) (xs ys : List Int) : lcs (a :: xs) ys ≤ lcs xs ys + 1 := by
  obtain ⟨s, h1, h2, h3⟩ := lcs_ex (a :: xs) ys
  cases s with
  | nil => simp at h3; omega
  | cons c s =>
    have h1' : s.Sublist xs := by
      cases h1 with
      | cons _ h => exact (List.sublist_cons_self c s).trans h
      | cons_cons _ h => exact h
    have := lcs_ub xs ys s h1' ((List.sublist_cons_self c s).trans h2)
    simp at h3; omega
theorem lcs_cons_le_right (b : Int) (xs ys : List Int) : lcs xs (b :: ys) ≤ lcs xs ys + 1 := by
  rw [lcs_comm, lcs_comm xs ys]; exact lcs_cons_le b ys xs

theorem lcs_snoc_same (a : Int) (xs ys : List Int) : lcs (xs ++ [a]) (ys ++ [a]) = lcs xs ys + 1 := by
  rw [← lcs_reverse, ← lcs_reverse xs ys]; simp [lcs_cons_same]
theorem lcs_snoc (a b : Int) (xs ys : List Int) : lcs (xs ++ [a]) (ys ++ [b]) = if a = b then lcs xs ys + 1 else max (lcs xs (ys ++ [b])) (lcs (xs ++ [a]) ys) := by
  rw [← lcs_reverse, ← lcs_reverse xs ys, ← lcs_reverse xs (ys ++ [b]), ← lcs_reverse (xs ++ [a]) ys]
  simp [lcs_cons]
theorem lcs_snoc_le (a : Int) (xs ys : List Int) : lcs (xs ++ [a]) ys ≤ lcs xs ys + 1 := by
  rw [← lcs_reverse, ← lcs_reverse xs ys]; simp only [List.reverse_append, List.reverse_cons, List.reverse_nil, List.nil_append, List.singleton_append]; exact lcs_cons_le _ _ _

/-- Cut both lists anywhere: never more together. -/
theorem lcs_append_ge (xs xs' ys ys' : List Int) : lcs xs ys + lcs xs' ys' ≤ lcs (xs ++ xs') (ys ++ ys') := by
  obtain ⟨s, h1, h2, h3⟩ := lcs_ex xs ys
  obtain ⟨t, h4, h5, h6⟩ := lcs_ex xs' ys'
  have := lcs_ub (xs ++ xs') (ys ++ ys') (s ++ t) (h1.append h4) (h2.append h5)
  simp at this; omega

theorem sublist_append_split {s xs ys : List Int} (h : s.Sublist (xs ++ ys)) : ∃ s1 s2, s = s1 ++ s2 ∧ s1.Sublist xs ∧ s2.Sublist ys := by
  obtain ⟨l1, l2, rfl, h1, h2⟩ := List.sublist_append_iff.1 h
  exact ⟨l1, l2, rfl, h1, h2⟩

/-- Cut the first list: somewhere in the second one both together are just xt much. -/
theorem lcs_cut (xs xs' ys : List Int) : ∃ j, j ≤ ys.length ∧ lcs (xs ++ xs') ys = lcs xs (ys.take j) + lcs xs' (ys.drop j) := by
  obtain ⟨s, h1, h2, h3⟩ := lcs_ex (xs ++ xs') ys
  obtain ⟨s1, s2, rfl, h4, h5⟩ := sublist_append_split h1
  obtain ⟨l1, l2, rfl, h6, h7⟩ := List.append_sublist_iff.1 h2
  refine ⟨l1.length, by simp, ?_⟩
  have a1 := lcs_ub xs l1 s1 h4 h6
  have a2 := lcs_ub xs' l2 s2 h5 h7
  have a3 := lcs_append_ge xs xs' l1 l2
  simp only [List.take_left, List.drop_left]
  simp at h3; omega

/-- The same ahead of both: xt much more. -/
theorem lcs_prefix (p xs ys : List Int) : lcs (p ++ xs) (p ++ ys) = p.length + lcs xs ys := by
  induction p with
  | nil => simp
  | cons a p ih => simp only [List.cons_append, lcs_cons_same, ih, List.length_cons]; omega
theorem lcs_suffix (p xs ys : List Int) : lcs (xs ++ p) (ys ++ p) = p.length + lcs xs ys := by
  rw [← lcs_reverse, ← lcs_reverse xs ys]; simp [lcs_prefix]

/-- The distance. -/
def dist (xs ys : List Int) : Nat := xs.length + ys.length - 2 * lcs xs ys
theorem dist_add (xs ys : List Int) : dist xs ys + 2 * lcs xs ys = xs.length + ys.length := by
  have := lcs_le_left xs ys
  have := lcs_le_right xs ys
  unfold dist; omega
theorem dist_comm (xs ys : List Int) : dist xs ys = dist ys xs := by
  have := dist_add xs ys
  have := dist_add ys xs
  have := lcs_comm xs ys
  omega
theorem lcs_full {xs ys : List Int} (h : lcs xs ys = xs.length) (h' : lcs xs ys = ys.length) : xs = ys := by
  obtain ⟨s, h1, h2, h3⟩ := lcs_ex xs ys
  have e1 := h1.eq_of_length (by omega)
  have e2 := h2.eq_of_length (by omega)
  rw [← e1, ← e2]
theorem dist_zero_iff (xs ys : List Int) : dist xs ys = 0 ↔ xs = ys := by
  constructor
  · intro h
    have := dist_add xs ys
    have := lcs_le_left xs ys
    have := lcs_le_right xs ys
    exact lcs_full (by omega) (by omega)
  · rintro rfl
    have := dist_add xs xs
    have := lcs_self xs
    omega

/-- Two parts of one list have at least so much in common. -/
theorem sublist_both : ∀ (z s t : List Int), s.Sublist z → t.Sublist z → ∃ u : List Int, u.Sublist s ∧ u.Sublist t ∧ s.length + t.length ≤ z.length + u.length := by
  intro z
  induction z with
  | nil => intro s t h1 h2; simp at h1 h2; subst h1; subst h2; exact ⟨[], by simp⟩
  | cons c z ih =>
    intro s t h1 h2
    cases h1 with
    | cons _ h1 =>
      cases h2 with
      | cons _ h2 => obtain ⟨u, a, b, l⟩ := ih s t h1 h2; exact ⟨u, a, b, by simp; omega⟩
      | cons_cons _ h2 => rename_i t; obtain ⟨u, a, b, l⟩ := ih s t h1 h2; exact ⟨u, a, b.cons _, by simp; omega⟩
    | cons_cons _ h1 =>
      rename_i s
      cases h2 with
      | cons _ h2 => obtain ⟨u, a, b, l⟩ := ih s t h1 h2; exact ⟨u, a.cons _, b, by simp; omega⟩
      | cons_cons _ h2 => rename_i t; obtain ⟨u, a, b, l⟩ := ih s t h1 h2; exact ⟨c :: u, a.cons_cons _, b.cons_cons _, by simp; omega⟩
theorem dist_triangle (xs zs ys : List Int) : dist xs ys ≤ dist xs zs + dist zs ys := by
  obtain ⟨s, h1, h2, h3⟩ := lcs_ex xs zs
  obtain ⟨t, h4, h5, h6⟩ := lcs_ex zs ys
  obtain ⟨u, a, b, l⟩ := sublist_both zs s t h2 h4
  have := lcs_ub xs ys u (a.trans h1) (b.trans h5)
  have := dist_add xs ys
  have := dist_add xs zs
  have := dist_add zs ys
  omega


/-! Lists told place by place. -/
def seq {α : Type} (n : Nat) (F : Nat → α) : List α := (List.range n).map F
def upd {α : Type} (F : Nat → α) (i : Nat) (v : α) : Nat → α := fun j => if j = i then v else F j
theorem upd_same {α : Type} (F : Nat → α) (i : Nat) (v : α) : upd F i v i = v := by simp [upd]
theorem upd_ne {α : Type} (F : Nat → α) {i j : Nat} (v : α) (h : j ≠ i) : upd F i v j = F j := by simp [upd, h]
theorem seq_length {α : Type} (n : Nat) (F : Nat → α) : (seq n F).length = n := by simp [seq]
theorem seq_getD {α : Type} {n : Nat} (F : Nat → α) {i : Nat} (h : i < n) (d : α) : (seq n F).getD i d = F i := by simp [seq, h, List.getD_eq_getElem?_getD]
theorem seq_getElem {α : Type} {n : Nat} (F : Nat → α) {i : Nat} (h : i < (seq n F).length) : (seq n F)[i] = F i := by simp [seq]
theorem seq_ext {α : Type} {n : Nat} {F G : Nat → α} (h : ∀ i, i < n → F i = G i) : seq n F = seq n G := by
  unfold seq; exact List.map_congr_left fun i hi => h i (List.mem_range.1 hi)
theorem seq_set {α : Type} {n : Nat} (F : Nat → α) (i : Nat) (v : α) : (seq n F).set i v = seq n (upd F i v) := by
  apply List.ext_getElem
  · simp [seq_length]
  · intro j h1 h2
    rw [List.getElem_set, seq_getElem, seq_getElem]
    unfold upd
    by_cases h : i = j
    · rw [if_pos h, if_pos h.symm]
    · rw [if_neg h, if_neg (fun e => h e.symm)]
theorem seq_const {α : Type} (n : Nat) (v : α) : List.replicate n v = seq n (fun _ => v) := by
  apply List.ext_getElem
  · simp [seq_length]
  · intro j h1 h2; simp [seq]
theorem seq_snoc {α : Type} (n : Nat) (F : Nat → α) : seq (n + 1) F = seq n F ++ [F n] := by simp [seq, List.range_succ]
theorem seq_of {α : Type} (xs : List α) (d : α) : xs = seq xs.length (fun i => xs.getD i d) := by
  apply List.ext_getElem
  · simp [seq_length]
  · intro j h1 h2; rw [seq_getElem]; simp [List.getD_eq_getElem?_getD, h1]
theorem seq_inj {α : Type} {n : Nat} {F G : Nat → α} (h : seq n F = seq n G) : ∀ i, i < n → F i = G i := by
  intro i hi
  have := congrArg (fun l => l[i]?) h
  simpa [seq, hi] using this
theorem rd_seq {n : Nat} (F : Nat → Int) {i : Int} {p : Nat} (h : p < n) (e : i = (p : Int)) : rd (seq n F) i = F p := by
  subst e; rw [rd_nat, seq_getD F h]

/-- What both lists have in common behind two places. -/
def T (a b : List Int) (i j : Nat) : Nat := lcs (a.drop i) (b.drop j)
theorem T_out_left {a b : List Int} {i j : Nat} (h : a.length ≤ i) : T a b i j = 0 := by unfold T; rw [List.drop_eq_nil_of_le h]; simp
theorem T_out_right {a b : List Int} {i j : Nat} (h : b.length ≤ j) : T a b i j = 0 := by unfold T; rw [List.drop_eq_nil_of_le h]; simp
theorem T_step {a b : List Int} {i j : Nat} (h : i < a.length) (h' : j < b.length) : T a b i j = if a.getD i 0 = b.getD j 0 then T a b (i + 1) (j + 1) + 1 else max (T a b (i + 1) j) (T a b i (j + 1)) := by
  unfold T; rw [drop_getD h, drop_getD h', lcs_cons]
theorem T_le_left (a b : List Int) (i j : Nat) : T a b i j ≤ a.length - i := by have := lcs_le_left (a.drop i) (b.drop j); unfold T; simpa using this
theorem T_le_right (a b : List Int) (i j : Nat) : T a b i j ≤ b.length - j := by have := lcs_le_right (a.drop i) (b.drop j); unfold T; simpa using this
theorem T_zero (a b : List Int) : T a b 0 0 = lcs a b := rfl
theorem T_down (a b : List Int) (i j : Nat) : T a b (i + 1) j ≤ T a b i j := by
  unfold T; refine lcs_mono ?_ (List.Sublist.refl _)
  rw [← List.drop_drop]; exact List.drop_sublist _ _
theorem T_right (a b : List Int) (i j : Nat) : T a b i (j + 1) ≤ T a b i j := by
  unfold T; refine lcs_mono (List.Sublist.refl _) ?_
  rw [← List.drop_drop]; exact List.drop_sublist _ _
/-- The whole table. -/
def behind (a b : List Int) : List (List Int) := seq (a.length + 1) fun i => seq (b.length + 1) fun j => (T a b i j : Int)

def few (a : List Int) (n : Int) : List Int := a.map (· % n)
theorem few_length (a : List Int) (n : Int) : (few a n).length = a.length := by simp [few]
theorem tmod_few (x n : Int) (hn : 0 < n) : (if Int.tmod x n < 0 then Int.tmod x n + n else Int.tmod x n) = x % n := by
  rw [Int.tmod_eq_emod]
  have h1 := Int.emod_nonneg x (show n ≠ 0 by omega)
  have h2 := Int.emod_lt_of_pos x hn
  have h3 : (n.natAbs : Int) = n := by omega
  by_cases h : 0 ≤ x ∨ n ∣ x
  · rw [if_pos h]; rw [if_neg (by omega)]; omega
  · rw [if_neg h, h3]
    have h4 : x % n ≠ 0 := fun e => h (.inr (Int.dvd_of_emod_eq_zero e))
    rw [if_pos (by omega)]; omega
theorem few_take (a : List Int) (n : Int) (i : Nat) (h : i < a.length) : few (a.take (i + 1)) n = few (a.take i) n ++ [a.getD i 0 % n] := by
  rw [take_getD h]; simp [few]
theorem tattingref1_Few_l0 (a : List Int) (n : Int) (hn : 0 < n) (hn' : n ≤ 1000000) (ha : a.length ≤ 1000000) : ∀ (d k i : Nat), i + d = a.length → d < k →
    tattingref1_Few.l0 k a n (few (a.take i) n) i = some (few a n) := by
  intro d
  induction d with
  | zero =>
    intro k i hi hk
    obtain ⟨k, rfl⟩ : ∃ m, k = m + 1 := ⟨k - 1, by omega⟩
    simp (disch := omega) only [tattingref1_Few.l0, if_neg]
    rw [List.take_of_length_le (by omega)]
  | succ d ih =>
    intro k i hi hk
    obtain ⟨k, rfl⟩ : ∃ m, k = m + 1 := ⟨k - 1, by omega⟩
    have e1 : rd a (i : Int) = a.getD i 0 := rfl
    have hl : (few (a.take i) n).length ≤ a.length := by rw [few_length]; simp; omega
    have h1 := Int.emod_nonneg (a.getD i 0) (show n ≠ 0 by omega)
    have h2 := Int.emod_lt_of_pos (a.getD i 0) hn
    have h3 := tmod_few (a.getD i 0) n hn
    have h4 := ih k (i + 1) (by omega) (by omega)
    rw [few_take a n i (by omega)] at h4
    simp only [Int.natCast_add, Int.cast_ofNat_Int] at h4
    simp (disch := omega) only [tattingref1_Few.l0, if_pos, if_neg, e1, wr]
    split
    · rename_i hlt
      rw [if_pos hlt] at h3
      rw [h3]; exact h4
    · rename_i hlt
      rw [if_neg hlt] at h3
      rw [h3]; exact h4
theorem tattingref1_Few_eq (a : List Int) (n : Int) (hn : 0 < n) (hn' : n ≤ 1000000) (ha : a.length ≤ 1000000) (k : Nat) (hk : a.length < k) : tattingref1_Few.f k a n = some (few a n) := by
  have := tattingref1_Few_l0 a n hn hn' ha a.length k 0 (by omega) hk
  unfold tattingref1_Few.f
  simpa [few] using this

theorem grid_Len_l1 (a b : List Int) (ha : a.length ≤ 100000) (hb : b.length ≤ 100000) (r : Int) (i : Nat) (hi : i < a.length)
    (hr : ∀ g : Nat → Int, (∀ q, q ≤ b.length → g q = T a b i q) → Ev (fun k => grid_Len.l0 k a b (seq (b.length + 1) g) ((i : Int) - 1)) r) : ∀ (j : Nat) (g : Nat → Int), j ≤ b.length →
    (∀ q, j ≤ q → q ≤ b.length → g q = T a b i q) → (∀ q, q < j → g q = T a b (i + 1) q) → Ev (fun k => grid_Len.l1 k a b (seq (b.length + 1) g) i (T a b (i + 1) j) ((j : Int) - 1)) r := by
  intro j
  induction j with
  | zero =>
    intro g hj h1 h2
    refine Ev.step (fun k => ?_) (hr g (fun q hq => h1 q (by omega) hq))
    simp (disch := omega) only [grid_Len.l1, wr, if_neg]
  | succ j ih =>
    intro g hj h1 h2
    have l1 := seq_length (b.length + 1) g
    have e1 : rd a (i : Int) = a.getD i 0 := rfl
    have e2 : rd b ((((j + 1 : Nat) : Int)) - 1) = b.getD j 0 := rd_at (by omega)
    have e3 := rd_seq (n := b.length + 1) g (i := (((j + 1 : Nat) : Int)) - 1) (p := j) (by omega) (by omega)
    have e4 := rd_seq (n := b.length + 1) g (i := (((j + 1 : Nat) : Int)) - 1 + 1) (p := j + 1) (by omega) (by omega)
    have hs := T_step (a := a) (b := b) (i := i) (j := j) hi (by omega)
    have t1 := T_le_left a b (i + 1) (j + 1)
    have v1 := h1 (j + 1) (by omega) (by omega)
    have v2 := h2 j (by omega)
    have key : ∀ v : Int, v = T a b i j → Ev (fun k => grid_Len.l1 k a b ((seq (b.length + 1) g).set ((((j + 1 : Nat) : Int)) - 1).toNat v) i (g j) ((((j + 1 : Nat) : Int)) - 1 - 1)) r := by
      intro v hv
      rw [show ((((j + 1 : Nat) : Int)) - 1).toNat = j by omega, show ((((j + 1 : Nat) : Int)) - 1 - 1) = (j : Int) - 1 by omega, seq_set, v2]
      refine ih (upd g j v) (by omega) (fun q hq hq' => ?_) (fun q hq => ?_)
      · by_cases h : q = j
        · subst h; rw [upd_same, hv]
        · rw [upd_ne _ _ h]; exact h1 q (by omega) hq'
      · rw [upd_ne _ _ (by omega)]; exact h2 q (by omega)
    by_cases hab : a.getD i 0 = b.getD j 0
    · refine Ev.step (fun k => ?_) (key (T a b (i + 1) (j + 1) + 1) ?_)
      · simp (disch := omega) only [grid_Len.l1, ifT, wr, if_pos, e1, e2, e3, e4, l1, if_pos hab]
      · rw [hs, if_pos hab]; simp
    · refine Ev.step (fun k => ?_) (key (mx (g j) (g (j + 1))) ?_)
      · simp (disch := omega) only [grid_Len.l1, ifT, wr, if_pos, e1, e2, e3, e4, l1]
        simp (disch := omega) only [if_neg hab, if_pos, wr]
      · rw [hs, if_neg hab, v1, v2]; unfold mx; omega
theorem grid_Len_l0 (a b : List Int) (ha : a.length ≤ 100000) (hb : b.length ≤ 100000) : ∀ (i : Nat) (g : Nat → Int), i ≤ a.length → (∀ q, q ≤ b.length → g q = T a b i q) →
    Ev (fun k => grid_Len.l0 k a b (seq (b.length + 1) g) ((i : Int) - 1)) (lcs a b : Int) := by
  intro i
  induction i with
  | zero =>
    intro g hi h1
    refine Ev.step (f := fun _ => some _) (fun k => ?_) (Ev.now _)
    have l1 := seq_length (b.length + 1) g
    have e3 := rd_seq (n := b.length + 1) g (i := 0) (p := 0) (by omega) (by omega)
    simp (disch := omega) only [grid_Len.l0, if_neg, if_pos, l1, e3]
    rw [h1 0 (by omega)]; rfl
  | succ i ih =>
    intro g hi h1
    refine Ev.step (fun k => ?_) (grid_Len_l1 a b ha hb _ i (by omega) (fun g' h' => ih g' (by omega) h') b.length g (by omega) (fun q hq hq' => ?_) (fun q hq => h1 q (by omega)))
    · simp (disch := omega) only [grid_Len.l0, wr, if_pos]
      rw [show ((((i + 1 : Nat) : Int)) - 1) = (i : Int) by omega, T_out_right (Nat.le_refl _)]; rfl
    · obtain rfl : q = b.length := by omega
      rw [h1 _ (by omega), T_out_right (by omega), T_out_right (by omega)]
theorem grid_Len_eq (a b : List Int) (ha : a.length ≤ 100000) (hb : b.length ≤ 100000) : Ev (fun k => grid_Len.f k a b) (lcs a b : Int) := by
  refine Ev.congr (fun k => ?_) (grid_Len_l0 a b ha hb a.length (fun _ => 0) (by omega) (fun q hq => by rw [T_out_left (by omega)]; rfl))
  have e : ((b.length : Int) + 1).toNat = b.length + 1 := by omega
  unfold grid_Len.f
  simp (disch := omega) only [wr, if_pos, e, seq_const]
theorem grid_Dist_eq (a b : List Int) (ha : a.length ≤ 100000) (hb : b.length ≤ 100000) : Ev (fun k => grid_Dist.f k a b) (dist a b : Int) := by
  unfold grid_Dist.f
  refine Ev.bind (grid_Len_eq a b ha hb) (Ev.congr (fun k => ?_) (Ev.now _))
  have := dist_add a b
  have := lcs_le_left a b
  simp (disch := omega) only [wr]
  congr 1; omega

theorem awake_ev : ∃ K, tattinglaw8_awake.f K = some true := ⟨400, by decide +kernel⟩
theorem lcs_snoc_ge (c : Int) (x y : List Int) : lcs x y ≤ lcs (x ++ [c]) y := lcs_mono (List.sublist_append_left _ _) (List.Sublist.refl _)
theorem lcs_cons_ge (c : Int) (x y : List Int) : lcs x y ≤ lcs (c :: x) y := lcs_mono (List.sublist_cons_self _ _) (List.Sublist.refl _)
theorem law_GridGrows : tattinglaw8_GridGrows.Pure := by
  intro a b c front _ _ _ _ _ _ _
  have haw : Ev tattinglaw8_awake.f true := by
    obtain ⟨K, h⟩ := awake_ev
    exact Ev.of tattinglaw8_awake.mono h
  refine Ev.rounds (g := fun K => tattinglaw8_GridGrows.f K a b c front) ?_
  unfold tattinglaw8_GridGrows.f
  refine Ev.bind haw ?_
  simp only [itt, ifT]
  by_cases ha : (a.length : Int) > 40
  · refine Ev.step (f := fun _ => some true) (fun K => ?_) (Ev.now _)
    rw [if_pos ha, tattinglaw8_GridGrows.j0, itt]
  by_cases hb : (b.length : Int) > 40
  · refine Ev.step (f := fun _ => some true) (fun K => ?_) (Ev.now _)
    rw [if_neg ha, decide_eq_true hb, tattinglaw8_GridGrows.j0, itt]
  simp only [if_neg ha, decide_eq_false hb]
  have la := few_length a 4
  have lb := few_length b 4
  have fa := fun k hk => tattingref1_Few_eq a 4 (by omega) (by omega) (by omega) k hk
  have fb := fun k hk => tattingref1_Few_eq b 4 (by omega) (by omega) (by omega) k hk
  have fc := fun k hk => tattingref1_Few_eq [c] 4 (by omega) (by omega) (by simp) k hk
  have hc : few [c] 4 = [c % 4] := rfl
  rw [hc] at fc
  generalize few a 4 = x at *
  generalize few b 4 = y at *
  generalize c % 4 = z at *
  have lz : [z].length = 1 := rfl
  have ln : ([] : List Int).length = 0 := rfl
  have lxz : (x ++ [z]).length = x.length + 1 := by simp
  have lyz : (y ++ [z]).length = y.length + 1 := by simp
  have lzx : ([z] ++ x).length = x.length + 1 := by simp
  have lzy : ([z] ++ y).length = y.length + 1 := by simp
  obtain ⟨K1, h1⟩ := grid_Len_eq x y (by omega) (by omega)
  obtain ⟨K2, h2⟩ := grid_Len_eq (x ++ [z]) y (by omega) (by omega)
  obtain ⟨K3, h3⟩ := grid_Len_eq (x ++ [z]) (y ++ [z]) (by omega) (by omega)
  obtain ⟨K4, h4⟩ := grid_Len_eq ([z] ++ x) y (by omega) (by omega)
  obtain ⟨K5, h5⟩ := grid_Len_eq ([z] ++ x) ([z] ++ y) (by omega) (by omega)
  have m0 := lcs_le_left x y
  have m1 := lcs_snoc_ge z x y
  have m2 := lcs_snoc_le z x y
  have m3 := lcs_snoc_same z x y
  have m4 := lcs_cons_ge z x y
  have m5 := lcs_cons_le z x y
  have m6 := lcs_cons_same z x y
  refine ⟨1000 + K1 + K2 + K3 + K4 + K5, fun K hK => ?_⟩
  obtain ⟨K, rfl⟩ : ∃ m, K = m + 1 := ⟨K - 1, by omega⟩
  have e1 : grid_Len.f K x y = some _ := h1 K (by omega)
  have e2 : grid_Len.f K (x ++ [z]) y = some _ := h2 K (by omega)
  have e3 : grid_Len.f K (x ++ [z]) (y ++ [z]) = some _ := h3 K (by omega)
  have e4 : grid_Len.f K ([z] ++ x) y = some _ := h4 K (by omega)
  have e5 : grid_Len.f K ([z] ++ x) ([z] ++ y) = some _ := h5 K (by omega)
  rw [show [z] ++ x = z :: x from rfl] at e4 e5 lzx
  rw [show [z] ++ y = z :: y from rfl] at e5 lzy
  have f1 := fa K (by omega)
  have f2 := fb K (by omega)
  have f3 := fc K (by rw [show [c].length = 1 from rfl]; omega)
  show tattinglaw8_GridGrows.j0 (K + 1) a b c front false = some true
  rw [tattinglaw8_GridGrows.j0, ift, f1, bs, f2, bs, f3, bs]
  simp only [bs, List.nil_append, ln, lz]
  rw [if_pos (by omega), if_pos (by omega), if_pos (by omega), if_pos (by omega)]
  cases front with
  | true =>
    rw [itt, if_pos (by omega), if_pos (by omega), if_pos (by omega), if_pos (by omega)]
    simp only [List.cons_append, List.nil_append]
    rw [e1, bs, e4, bs, if_pos (by omega), wr (by omega) (by omega), if_pos (by omega), e5, bs, m6]
    simp
  | false =>
    rw [ift, e1, bs, e2, bs, if_pos (by omega), wr (by omega) (by omega), if_pos (by omega), e3, bs, m3]
    simp

theorem GridGrows : tattinglaw8_GridGrows.Pure := law_GridGrows

end Go.Proofs.Ytknfcipjbhhldaa.Pure
namespace Go.Proofs.Ytknfcipjbhhldaa.PrintWords
/-- The row's word under the name by which the row calls it. -/
abbrev sized_ints := @Go.Proofs.YtknfcipjbhhldaaW.PrintWords.sized_ints
end Go.Proofs.Ytknfcipjbhhldaa.PrintWords
