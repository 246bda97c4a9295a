/- Of every two lists the whole table of what is ahead of each two places: the law GridAhead holds, with no condition. -/
import Derived.Test.YtknfcipjbhhldaaPGridAheadx8
import Derived.Test.YtknfcipjbhhldaaWSized
namespace Go.Proofs.Ytknfcipjbhhldaa.Pure
open Go.RowKit Go.Proofs.Ytknfcipjbhhldaa.PGridAhead Go.Proofs.YtknfcipjbhhldaaW.PrintWords Go.Proofs.YtknfcipjbhhldaaW.PrintLast Go.Proofs.YtknfcipjbhhldaaW.PrintMore
set_option linter.unusedVariables false
set_option linter.unusedSimpArgs false

/-! Words for the pure side: whole numbers that do not wrap, reads of lists. -/
theorem wr {x : Int} (h : -9223372036854775808 ≤ x) (h' : x < 9223372036854775808) : wrap64 x = x := by unfold wrap64; omega
theorem rd_nat (xs : List Int) (n : Nat) : rd xs (n : Int) = xs.getD n 0 := rfl
theorem rd_at {xs : List Int} {i : Int} {n : Nat} (h : i = (n : Int)) : rd xs i = xs.getD n 0 := by subst h; rfl
theorem drop_getD {xs : List Int} {i : Nat} (h : i < xs.length) : xs.drop i = xs.getD i 0 :: xs.drop (i + 1) := by
  rw [List.drop_eq_getElem_cons h]; simp [List.getD_eq_getElem?_getD, h]
theorem take_getD {xs : List Int} {i : Nat} (h : i < xs.length) : xs.take (i + 1) = xs.take i ++ [xs.getD i 0] := by
  rw [List.take_succ_eq_append_getElem h]; simp [List.getD_eq_getElem?_getD, h]

theorem lz_bind {α β : Type} {a a' : Option α} {f : α → Option β} (h : a = a') : a.bind f = a'.bind f := by rw [h]
theorem lz_ite {α : Type} {c c' : Prop} [s : Decidable c] [s' : Decidable c'] {t e : α} (h : c = c') : ite c t e = ite c' t e := by
  subst h; rw [Subsingleton.elim s s']
attribute [local congr] lz_bind lz_ite
theorem bs {α β : Type} (a : α) (f : α → Option β) : (some a).bind f = f a := by simp
theorem itt {α : Type} (t e : α) : (if (true = true) then t else e) = t := by simp
theorem ift {α : Type} (t e : α) : (if (false = true) then t else e) = e := by simp
theorem ifT {α : Type} (t e : α) : (if True then t else e) = t := by simp
theorem ifF {α : Type} (t e : α) : (if False then t else e) = e := by simp

/-! The longest common subsequence of two lists of whole numbers: no program in sight. -/

def lcs : List Int → List Int → Nat
  | [], _ => 0
  | _ :: _, [] => 0
  | a :: xt, b :: yt => if a = b then lcs xt yt + 1 else max (lcs xt (b :: yt)) (lcs (a :: xt) yt)
termination_by xs ys => xs.length + ys.length

@[simp] theorem lcs_nil_left (ys : List Int) : lcs [] ys = 0 := by cases ys <;> simp [lcs]
@[simp] theorem lcs_nil_right (xs : List Int) : lcs xs [] = 0 := by cases xs <;> simp [lcs]
theorem lcs_cons (a b : Int) (xt yt : List Int) : lcs (a :: xt) (b :: yt) = if a = b then lcs xt yt + 1 else max (lcs xt (b :: yt)) (lcs (a :: xt) yt) := by
  rw [lcs]

theorem lcs_ub (xs ys : List Int) : ∀ s : List Int, s.Sublist xs → s.Sublist ys → s.length ≤ lcs xs ys := by
  induction xs, ys using lcs.induct with
  | case1 ys => intro s h _; simp at h; subst h; simp
  | case2 a xt => intro s _ h; simp at h; subst h; simp
  | case3 xt b yt ih =>
    intro s h1 h2
    rw [lcs_cons, if_pos rfl]
    cases s with
    | nil => simp
    | cons c s =>
      have h1' : s.Sublist xt := by
        cases h1 with
        | cons _ h => exact (List.sublist_cons_self c s).trans h
        | cons_cons _ h => exact h
      have h2' : s.Sublist yt := by
        cases h2 with
        | cons _ h => exact (List.sublist_cons_self c s).trans h
        | cons_cons _ h => exact h
      have := ih s h1' h2'
      simp; omega
  | case4 a xt b yt hne ih1 ih2 =>
    intro s h1 h2
    rw [lcs_cons, if_neg hne]
    cases s with
    | nil => simp
    | cons c s =>
      by_cases hc : c = a
      · subst hc
        have h2' : (c :: s).Sublist yt := by
          cases h2 with
          | cons _ h => exact h
          | cons_cons _ h => exact absurd rfl hne
        have := ih2 _ h1 h2'
        omega
      · have h1' : (c :: s).Sublist xt := by
          cases h1 with
          | cons _ h => exact h
          | cons_cons _ h => exact absurd rfl hc
        have := ih1 _ h1' h2
        omega

theorem lcs_ex (xs ys : List Int) : ∃ s : List Int, s.Sublist xs ∧ s.Sublist ys ∧ s.length = lcs xs ys := by
  induction xs, ys using lcs.induct with
  | case1 ys => exact ⟨[], by simp⟩
  | case2 a xt => exact ⟨[], by simp⟩
  | case3 xt b yt ih =>
    obtain ⟨s, h1, h2, h3⟩ := ih
    exact ⟨b :: s, h1.cons_cons b, h2.cons_cons b, by rw [lcs_cons, if_pos rfl]; simp [h3]⟩
  | case4 a xt b yt hne ih1 ih2 =>
    rw [lcs_cons, if_neg hne]
    by_cases h : lcs (a :: xt) yt ≤ lcs xt (b :: yt)
    · obtain ⟨s, h1, h2, h3⟩ := ih1
      exact ⟨s, h1.cons a, h2, by omega⟩
    · obtain ⟨s, h1, h2, h3⟩ := ih2
      exact ⟨s, h1, h2.cons b, by omega⟩

theorem lcs_unique {xs ys : List Int} {n : Nat} (h : ∃ s : List Int, s.Sublist xs ∧ s.Sublist ys ∧ s.length = n) (h' : ∀ s : List Int, s.Sublist xs → s.Sublist ys → s.length ≤ n) : lcs xs ys = n := by
  obtain ⟨s, h1, h2, h3⟩ := h
  obtain ⟨t, h4, h5, h6⟩ := lcs_ex xs ys
  have := lcs_ub xs ys s h1 h2
  have := h' t h4 h5
  omega

theorem lcs_comm (xs ys : List Int) : lcs xs ys = lcs ys xs := by
  obtain ⟨s, h1, h2, h3⟩ := lcs_ex ys xs
  exact lcs_unique ⟨s, h2, h1, h3⟩ fun t a b => lcs_ub ys xs t b a

theorem lcs_reverse (xs ys : List Int) : lcs xs.reverse ys.reverse = lcs xs ys := by
  obtain ⟨s, h1, h2, h3⟩ := lcs_ex xs ys
  refine lcs_unique ⟨s.reverse, h1.reverse, h2.reverse, by simp [h3]⟩ fun t a b => ?_
  have := lcs_ub xs ys t.reverse (by simpa using a.reverse) (by simpa using b.reverse)
  simpa using this

theorem lcs_mono {xs xs' ys ys' : List Int} (h : xs.Sublist xs') (h' : ys.Sublist ys') : lcs xs ys ≤ lcs xs' ys' := by
  obtain ⟨s, h1, h2, h3⟩ := lcs_ex xs ys
  have := lcs_ub xs' ys' s (h1.trans h) (h2.trans h')
  omega

theorem lcs_le_left (xs ys : List Int) : lcs xs ys ≤ xs.length := by
  obtain ⟨s, h1, _, h3⟩ := lcs_ex xs ys
  have := h1.length_le
  omega
theorem lcs_le_right (xs ys : List Int) : lcs xs ys ≤ ys.length := by rw [lcs_comm]; exact lcs_le_left _ _

theorem lcs_self (xs : List Int) : lcs xs xs = xs.length := by
  have := lcs_ub xs xs xs (List.Sublist.refl _) (List.Sublist.refl _)
  have := lcs_le_left xs xs
  omega

theorem lcs_cons_same (a : Int) (xs ys : List Int) : lcs (a :: xs) (a :: ys) = lcs xs ys + 1 := by rw [lcs_cons, if_pos rfl]

theorem lcs_cons_le (a : Int) (xs ys : List Int) : lcs (a :: xs) ys ≤ lcs xs ys + 1 := by
  obtain ⟨s, h1, h2, h3⟩ := lcs_ex (a :: xs) ys
  cases s with
  | nil => simp at h3; omega
  | cons c s =>
    have h1' : s.Sublist xs := by
      cases h1 with
      | cons _ h => exact (List.sublist_cons_self c s).trans h
      | cons_cons _ h => exact h
    have := lcs_ub xs ys s h1' ((List.sublist_cons_self c s).trans h2)
    simp at h3; omega
theorem lcs_cons_le_right (b : Int) (xs ys : List Int) : lcs xs (b :: ys) ≤ lcs xs ys + 1 := by
  rw [lcs_comm, lcs_comm xs ys]; exact lcs_cons_le b ys xs

theorem lcs_snoc_same (a : Int) (xs ys : List Int) : lcs (xs ++ [a]) (ys ++ [a]) = lcs xs ys + 1 := by
  rw [← lcs_reverse, ← lcs_reverse xs ys]; simp [lcs_cons_same]
theorem lcs_snoc (a b : Int) (xs ys : List Int) : lcs (xs ++ [a]) (ys ++ [b]) = if a = b then lcs xs ys + 1 else max (lcs xs (ys ++ [b])) (lcs (xs ++ [a]) ys) := by
  rw [← lcs_reverse, ← lcs_reverse xs ys, ← lcs_reverse xs (ys ++ [b]), ← lcs_reverse (xs ++ [a]) ys]
  simp [lcs_cons]
theorem lcs_snoc_le (a : Int) (xs ys : List Int) : lcs (xs ++ [a]) ys ≤ lcs xs ys + 1 := by
  rw [← lcs_reverse, ← lcs_reverse xs ys]; simp only [List.reverse_append, List.reverse_cons, List.reverse_nil, List.nil_append, List.singleton_append]; exact lcs_cons_le _ _ _

/-- Cut both lists anywhere: never more together. -/
theorem lcs_append_ge (xs xs' ys ys' : List Int) : lcs xs ys + lcs xs' ys' ≤ lcs (xs ++ xs') (ys ++ ys') := by
  obtain ⟨s, h1, h2, h3⟩ := lcs_ex xs ys
  obtain ⟨t, h4, h5, h6⟩ := lcs_ex xs' ys'
  have := lcs_ub (xs ++ xs') (ys ++ ys') (s ++ t) (h1.append h4) (h2.append h5)
  simp at this; omega

theorem sublist_append_split {s xs ys : List Int} (h : s.Sublist (xs ++ ys)) : ∃ s1 s2, s = s1 ++ s2 ∧ s1.Sublist xs ∧ s2.Sublist ys := by
  obtain ⟨l1, l2, rfl, h1, h2⟩ := List.sublist_append_iff.1 h
  exact ⟨l1, l2, rfl, h1, h2⟩

/-- Cut the first list: somewhere in the second one both together are just xt much. -/
theorem lcs_cut (xs xs' ys : List Int) : ∃ j, j ≤ ys.length ∧ lcs (xs ++ xs') ys = lcs xs (ys.take j) + lcs xs' (ys.drop j) := by
  obtain ⟨s, h1, h2, h3⟩ := lcs_ex (xs ++ xs') ys
  obtain ⟨s1, s2, rfl, h4, h5⟩ := sublist_append_split h1
  obtain ⟨l1, l2, rfl, h6, h7⟩ := List.append_sublist_iff.1 h2
  refine ⟨l1.length, by simp, ?_⟩
  have a1 := lcs_ub xs l1 s1 h4 h6
  have a2 := lcs_ub xs' l2 s2 h5 h7
  have a3 := lcs_append_ge xs xs' l1 l2
  simp only [List.take_left, List.drop_left]
  simp at h3; omega

/-- The same ahead of both: xt much more. -/
theorem lcs_prefix (p xs ys : List Int) : lcs (p ++ xs) (p ++ ys) = p.length + lcs xs ys := by
  induction p with
  | nil => simp
  | cons a p ih => simp only [List.cons_append, lcs_cons_same, ih, List.length_cons]; omega
theorem lcs_suffix (p xs ys : List Int) : lcs (xs ++ p) (ys ++ p) = p.length + lcs xs ys := by
  rw [← lcs_reverse, ← lcs_reverse xs ys]; simp [lcs_prefix]

/-- The distance. -/
def dist (xs ys : List Int) : Nat := xs.length + ys.length - 2 * lcs xs ys
theorem dist_add (xs ys : List Int) : dist xs ys + 2 * lcs xs ys = xs.length + ys.length := by
  have := lcs_le_left xs ys
  have := lcs_le_right xs ys
  unfold dist; omega
theorem dist_comm (xs ys : List Int) : dist xs ys = dist ys xs := by
  have := dist_add xs ys
  have := dist_add ys xs
  have := lcs_comm xs ys
  omega
theorem lcs_full {xs ys : List Int} (h : lcs xs ys = xs.length) (h' : lcs xs ys = ys.length) : xs = ys := by
  obtain ⟨s, h1, h2, h3⟩ := lcs_ex xs ys
  have e1 := h1.eq_of_length (by omega)
  have e2 := h2.eq_of_length (by omega)
  rw [← e1, ← e2]
theorem dist_zero_iff (xs ys : List Int) : dist xs ys = 0 ↔ xs = ys := by
  constructor
  · intro h
    have := dist_add xs ys
    have := lcs_le_left xs ys
    have := lcs_le_right xs ys
    exact lcs_full (by omega) (by omega)
  · rintro rfl
    have := dist_add xs xs
    have := lcs_self xs
    omega

/-- Two parts of one list have at least so much in common. -/
theorem sublist_both : ∀ (z s t : List Int), s.Sublist z → t.Sublist z → ∃ u : List Int, u.Sublist s ∧ u.Sublist t ∧ s.length + t.length ≤ z.length + u.length := by
  intro z
  induction z with
  | nil => intro s t h1 h2; simp at h1 h2; subst h1; subst h2; exact ⟨[], by simp⟩
  | cons c z ih =>
    intro s t h1 h2
    cases h1 with
    | cons _ h1 =>
      cases h2 with
      | cons _ h2 => obtain ⟨u, a, b, l⟩ := ih s t h1 h2; exact ⟨u, a, b, by simp; omega⟩
      | cons_cons _ h2 => rename_i t; obtain ⟨u, a, b, l⟩ := ih s t h1 h2; exact ⟨u, a, b.cons _, by simp; omega⟩
    | cons_cons _ h1 =>
      rename_i s
      cases h2 with
      | cons _ h2 => obtain ⟨u, a, b, l⟩ := ih s t h1 h2; exact ⟨u, a.cons _, b, by simp; omega⟩
      | cons_cons _ h2 => rename_i t; obtain ⟨u, a, b, l⟩ := ih s t h1 h2; exact ⟨c :: u, a.cons_cons _, b.cons_cons _, by simp; omega⟩
theorem dist_triangle (xs zs ys : List Int) : dist xs ys ≤ dist xs zs + dist zs ys := by
  obtain ⟨s, h1, h2, h3⟩ := lcs_ex xs zs
  obtain ⟨t, h4, h5, h6⟩ := lcs_ex zs ys
  obtain ⟨u, a, b, l⟩ := sublist_both zs s t h2 h4
  have := lcs_ub xs ys u (a.trans h1) (b.trans h5)
  have := dist_add xs ys
  have := dist_add xs zs
  have := dist_add zs ys
  omega


/-! Lists told place by place. -/
def seq {α : Type} (n : Nat) (F : Nat → α) : List α := (List.range n).map F
def upd {α : Type} (F : Nat → α) (i : Nat) (v : α) : Nat → α := fun j => if j = i then v else F j
theorem upd_same {α : Type} (F : Nat → α) (i : Nat) (v : α) : upd F i v i = v := by simp [upd]
theorem upd_ne {α : Type} (F : Nat → α) {i j : Nat} (v : α) (h : j ≠ i) : upd F i v j = F j := by simp [upd, h]
theorem seq_length {α : Type} (n : Nat) (F : Nat → α) : (seq n F).length = n := by simp [seq]
theorem seq_getD {α : Type} {n : Nat} (F : Nat → α) {i : Nat} (h : i < n) (d : α) : (seq n F).getD i d = F i := by simp [seq, h, List.getD_eq_getElem?_getD]
theorem seq_getElem {α : Type} {n : Nat} (F : Nat → α) {i : Nat} (h : i < (seq n F).length) : (seq n F)[i] = F i := by simp [seq]
theorem seq_ext {α : Type} {n : Nat} {F G : Nat → α} (h : ∀ i, i < n → F i = G i) : seq n F = seq n G := by
  unfold seq; exact List.map_congr_left fun i hi => h i (List.mem_range.1 hi)
theorem seq_set {α : Type} {n : Nat} (F : Nat → α) (i : Nat) (v : α) : (seq n F).set i v = seq n (upd F i v) := by
  apply List.ext_getElem
  · simp [seq_length]
  · intro j h1 h2
    rw [List.getElem_set, seq_getElem, seq_getElem]
    unfold upd
    by_cases h : i = j
    · rw [if_pos h, if_pos h.symm]
    · rw [if_neg h, if_neg (fun e => h e.symm)]
theorem seq_const {α : Type} (n : Nat) (v : α) : List.replicate n v = seq n (fun _ => v) := by
  apply List.ext_getElem
  · simp [seq_length]
  · intro j h1 h2; simp [seq]
theorem seq_snoc {α : Type} (n : Nat) (F : Nat → α) : seq (n + 1) F = seq n F ++ [F n] := by simp [seq, List.range_succ]
theorem seq_of {α : Type} (xs : List α) (d : α) : xs = seq xs.length (fun i => xs.getD i d) := by
  apply List.ext_getElem
  · simp [seq_length]
  · intro j h1 h2; rw [seq_getElem]; simp [List.getD_eq_getElem?_getD, h1]
theorem seq_inj {α : Type} {n : Nat} {F G : Nat → α} (h : seq n F = seq n G) : ∀ i, i < n → F i = G i := by
  intro i hi
  have := congrArg (fun l => l[i]?) h
  simpa [seq, hi] using this
theorem rd_seq {n : Nat} (F : Nat → Int) {i : Int} {p : Nat} (h : p < n) (e : i = (p : Int)) : rd (seq n F) i = F p := by
  subst e; rw [rd_nat, seq_getD F h]

theorem rd_L1_seq {n : Nat} (F : Nat → List Int) {i : Int} {p : Nat} (h : p < n) (e : i = (p : Int)) : rd_L1 (seq n F) i = F p := by
  subst e; unfold rd_L1; rw [Int.toNat_natCast, seq_getD F h]

/-- What both lists have in common behind two places. -/
def T (a b : List Int) (i j : Nat) : Nat := lcs (a.drop i) (b.drop j)
theorem T_out_left {a b : List Int} {i j : Nat} (h : a.length ≤ i) : T a b i j = 0 := by unfold T; rw [List.drop_eq_nil_of_le h]; simp
theorem T_out_right {a b : List Int} {i j : Nat} (h : b.length ≤ j) : T a b i j = 0 := by unfold T; rw [List.drop_eq_nil_of_le h]; simp
theorem T_step {a b : List Int} {i j : Nat} (h : i < a.length) (h' : j < b.length) : T a b i j = if a.getD i 0 = b.getD j 0 then T a b (i + 1) (j + 1) + 1 else max (T a b (i + 1) j) (T a b i (j + 1)) := by
  unfold T; rw [drop_getD h, drop_getD h', lcs_cons]
theorem T_le_left (a b : List Int) (i j : Nat) : T a b i j ≤ a.length - i := by have := lcs_le_left (a.drop i) (b.drop j); unfold T; simpa using this
theorem T_le_right (a b : List Int) (i j : Nat) : T a b i j ≤ b.length - j := by have := lcs_le_right (a.drop i) (b.drop j); unfold T; simpa using this
theorem T_zero (a b : List Int) : T a b 0 0 = lcs a b := rfl
theorem T_down (a b : List Int) (i j : Nat) : T a b (i + 1) j ≤ T a b i j := by
  unfold T; refine lcs_mono ?_ (List.Sublist.refl _)
  rw [← List.drop_drop]; exact List.drop_sublist _ _
theorem T_right (a b : List Int) (i j : Nat) : T a b i (j + 1) ≤ T a b i j := by
  unfold T; refine lcs_mono (List.Sublist.refl _) ?_
  rw [← List.drop_drop]; exact List.drop_sublist _ _
/-- The whole table. -/
def behind (a b : List Int) : List (List Int) := seq (a.length + 1) fun i => seq (b.length + 1) fun j => (T a b i j : Int)

/-- What both lists have in common ahead of two places. -/
def H (a b : List Int) (i j : Nat) : Nat := lcs (a.take i) (b.take j)
theorem H_zero_left (a b : List Int) (j : Nat) : H a b 0 j = 0 := by unfold H; simp
theorem H_zero_right (a b : List Int) (i : Nat) : H a b i 0 = 0 := by unfold H; simp
theorem H_step {a b : List Int} {i j : Nat} (h : i < a.length) (h' : j < b.length) : H a b (i + 1) (j + 1) = if a.getD i 0 = b.getD j 0 then H a b i j + 1 else max (H a b i (j + 1)) (H a b (i + 1) j) := by
  unfold H; rw [take_getD h, take_getD h', lcs_snoc]
theorem H_le_left (a b : List Int) (i j : Nat) : H a b i j ≤ a.length := by have := lcs_le_left (a.take i) (b.take j); unfold H; simp at this; omega
theorem H_le_i (a b : List Int) (i j : Nat) : H a b i j ≤ i := by have := lcs_le_left (a.take i) (b.take j); unfold H; simp at this; omega
theorem H_le_j (a b : List Int) (i j : Nat) : H a b i j ≤ j := by have := lcs_le_right (a.take i) (b.take j); unfold H; simp at this; omega
theorem H_down (a b : List Int) (i j : Nat) : H a b i j ≤ H a b (i + 1) j := by
  unfold H
  exact lcs_mono (by rw [show a.take i = (a.take (i + 1)).take i by rw [List.take_take]; congr 1; omega]; exact List.take_sublist _ _) (List.Sublist.refl _)
theorem H_right (a b : List Int) (i j : Nat) : H a b i j ≤ H a b i (j + 1) := by
  unfold H
  exact lcs_mono (List.Sublist.refl _) (by rw [show b.take j = (b.take (j + 1)).take j by rw [List.take_take]; congr 1; omega]; exact List.take_sublist _ _)
theorem H_all (a b : List Int) : H a b a.length b.length = lcs a b := by unfold H; simp
def ahead (a b : List Int) : List (List Int) := seq (a.length + 1) fun i => seq (b.length + 1) fun j => (H a b i j : Int)

theorem grid_table_l0 (n m : Nat) (hn : n ≤ 100000) (hm : m ≤ 100000) : ∀ (d i : Nat) (F : Nat → List Int), i + d = n + 1 → (∀ j, j < i → F j = seq (m + 1) fun _ => 0) →
    Ev (fun k => grid_table.l0 k m (seq (n + 1) F) ((n + 1 : Nat) : Int) i) (seq (n + 1) fun _ => seq (m + 1) fun _ => 0) := by
  intro d
  induction d with
  | zero =>
    intro i F hi hF
    refine Ev.step (f := fun _ => some (seq (n + 1) F)) (fun k => ?_) ?_
    · simp (disch := omega) only [grid_table.l0, if_neg]
    · rw [seq_ext (G := fun _ => seq (m + 1) fun _ => (0 : Int)) (fun j hj => hF j (by omega))]
      exact Ev.now _
  | succ d ih =>
    intro i F hi hF
    refine Ev.step (fun k => ?_) (ih (i + 1) (upd F i (seq (m + 1) fun _ => 0)) (by omega) ?_)
    · have hl := seq_length (n + 1) F
      have e : (((m : Int) + 1)).toNat = m + 1 := by omega
      simp (disch := omega) only [grid_table.l0, wr, if_pos, e, seq_const, hl, Int.toNat_natCast, seq_set]
      simp only [Int.natCast_add, Int.cast_ofNat_Int]
    · intro j hj
      by_cases h : j = i
      · subst h; rw [upd_same]
      · rw [upd_ne _ _ h]; exact hF j (by omega)
theorem grid_table_eq (n m : Nat) (hn : n ≤ 100000) (hm : m ≤ 100000) : Ev (fun k => grid_table.f k n m) (seq (n + 1) fun _ => seq (m + 1) fun _ => 0) := by
  refine Ev.congr (fun k => ?_) (grid_table_l0 n m hn hm (n + 1) 0 (fun _ => []) (by omega) (by omega))
  have e : (((n : Int) + 1)).toNat = n + 1 := by omega
  have hl := seq_length (n + 1) (fun _ => ([] : List Int))
  unfold grid_table.f
  simp (disch := omega) only [wr, if_pos, e, bs, seq_const, hl]
  rfl

theorem grid_Ahead_l1 (a b : List Int) (ha : a.length ≤ 100000) (hb : b.length ≤ 100000) (r : List (List Int)) (i : Nat) (hi : i < a.length)
    (hr : ∀ g : Nat → Nat → Int, (∀ p q, p ≤ i + 1 → q ≤ b.length → g p q = H a b p q) → (∀ p, i + 1 < p → g p 0 = 0) →
      Ev (fun k => grid_Ahead.l0 k a b (seq (a.length + 1) fun p => seq (b.length + 1) (g p)) a.length ((i : Int) + 1)) r) : ∀ (d j : Nat) (f : Nat → Nat → Int), j + d = b.length →
    (∀ p q, p ≤ i → q ≤ b.length → f p q = H a b p q) → (∀ q, q ≤ j → f (i + 1) q = H a b (i + 1) q) → (∀ p, i + 1 < p → f p 0 = 0) →
    Ev (fun k => grid_Ahead.l1 k a b (seq (a.length + 1) fun p => seq (b.length + 1) (f p)) i a.length i b.length j) r := by
  intro d
  induction d with
  | zero =>
    intro j f hj h1 h2 h3
    refine Ev.step (fun k => ?_) (hr f (fun p q hp hq => ?_) h3)
    · simp (disch := omega) only [grid_Ahead.l1, wr, if_neg]
    · by_cases h : p = i + 1
      · subst h; exact h2 q (by omega)
      · exact h1 p q (by omega) hq
  | succ d ih =>
    intro j f hj h1 h2 h3
    have l0 := seq_length (a.length + 1) fun p => seq (b.length + 1) (f p)
    have l1 : ∀ p, (seq (b.length + 1) (f p)).length = b.length + 1 := fun p => seq_length _ _
    have e1 : rd a (i : Int) = a.getD i 0 := rfl
    have e2 : rd b (j : Int) = b.getD j 0 := rfl
    have e3 := rd_L1_seq (n := a.length + 1) (fun p => seq (b.length + 1) (f p)) (i := (i : Int)) (p := i) (by omega) rfl
    have e4 := rd_L1_seq (n := a.length + 1) (fun p => seq (b.length + 1) (f p)) (i := (i : Int) + 1) (p := i + 1) (by omega) (by omega)
    have e5 := rd_seq (n := b.length + 1) (f i) (i := (j : Int)) (p := j) (by omega) (by omega)
    have e6 := rd_seq (n := b.length + 1) (f i) (i := (j : Int) + 1) (p := j + 1) (by omega) (by omega)
    have e7 := rd_seq (n := b.length + 1) (f (i + 1)) (i := (j : Int)) (p := j) (by omega) (by omega)
    have hs := H_step (a := a) (b := b) (i := i) (j := j) hi (by omega)
    have t1 := H_le_left a b i j
    have v1 := h1 i j (by omega) (by omega)
    have v2 := h1 i (j + 1) (by omega) (by omega)
    have v3 := h2 j (by omega)
    have key : ∀ v : Int, v = H a b (i + 1) (j + 1) → Ev (fun k => grid_Ahead.l1 k a b ((seq (a.length + 1) fun p => seq (b.length + 1) (f p)).set ((i : Int) + 1).toNat ((seq (b.length + 1) (f (i + 1))).set ((j : Int) + 1).toNat v)) i a.length i b.length ((j : Int) + 1)) r := by
      intro v hv
      rw [show ((j : Int) + 1).toNat = j + 1 by omega, show ((i : Int) + 1).toNat = i + 1 by omega, seq_set, seq_set]
      have hg := ih (j + 1) (fun p => upd (fun p => f p) (i + 1) (upd (f (i + 1)) (j + 1) v) p) (by omega) (fun p q hp hq => by
        show upd (fun p => f p) (i + 1) (upd (f (i + 1)) (j + 1) v) p q = _
        rw [upd_ne _ _ (by omega)]; exact h1 p q hp hq) (fun q hq => by
        show upd (fun p => f p) (i + 1) (upd (f (i + 1)) (j + 1) v) (i + 1) q = _
        rw [upd_same]
        by_cases h : q = j + 1
        · subst h; rw [upd_same, hv]
        · rw [upd_ne _ _ h]; exact h2 q (by omega)) (fun p hp => by
        show upd (fun p => f p) (i + 1) (upd (f (i + 1)) (j + 1) v) p 0 = _
        rw [upd_ne _ _ (by omega)]; exact h3 p hp)
      have e : (seq (a.length + 1) fun p => seq (b.length + 1) (upd (fun p => f p) (i + 1) (upd (f (i + 1)) (j + 1) v) p)) = seq (a.length + 1) (upd (fun p => seq (b.length + 1) (f p)) (i + 1) (seq (b.length + 1) (upd (f (i + 1)) (j + 1) v))) := by
        refine seq_ext fun p hp => ?_
        by_cases h : p = i + 1
        · subst h; rw [upd_same, upd_same]
        · rw [upd_ne _ _ h, upd_ne _ _ h]
      rw [← e]; exact hg
    by_cases hab : a.getD i 0 = b.getD j 0
    · refine Ev.step (fun k => ?_) (key (f i j + 1) ?_)
      · simp (disch := omega) only [grid_Ahead.l1, wr, if_pos, ifT, e1, e2, e3, e4, e5, l0, l1, if_pos hab]
      · rw [hs, if_pos hab, v1]; simp
    · refine Ev.step (fun k => ?_) (key (mx (f i (j + 1)) (f (i + 1) j)) ?_)
      · simp (disch := omega) only [grid_Ahead.l1, wr, if_pos, ifT, e1, e2, e3, e4, e6, e7, l0, l1]
        simp (disch := omega) only [if_neg hab, if_pos, wr]
      · rw [hs, if_neg hab, v2, v3]; unfold mx; omega
theorem grid_Ahead_l0 (a b : List Int) (ha : a.length ≤ 100000) (hb : b.length ≤ 100000) : ∀ (d i : Nat) (f : Nat → Nat → Int), i + d = a.length →
    (∀ p q, p ≤ i → q ≤ b.length → f p q = H a b p q) → (∀ p, i < p → f p 0 = 0) →
    Ev (fun k => grid_Ahead.l0 k a b (seq (a.length + 1) fun p => seq (b.length + 1) (f p)) a.length i) (ahead a b) := by
  intro d
  induction d with
  | zero =>
    intro i f hi h1 h2
    refine Ev.step (f := fun _ => some _) (fun k => ?_) (Ev.now _)
    simp (disch := omega) only [grid_Ahead.l0, if_neg]
    congr 1
    exact seq_ext fun p hp => seq_ext fun q hq => h1 p q (by omega) (by omega)
  | succ d ih =>
    intro i f hi h1 h2
    refine Ev.step (fun k => ?_) (grid_Ahead_l1 a b ha hb (ahead a b) i (by omega) (fun g g1 g2 => by simpa using ih (i + 1) g (by omega) g1 g2) b.length 0 f (by omega) h1 (fun q hq => ?_) (fun p hp => h2 p (by omega)))
    · simp (disch := omega) only [grid_Ahead.l0, wr, if_pos]
      rfl
    · obtain rfl : q = 0 := by omega
      rw [h2 (i + 1) (by omega), H_zero_right]; rfl
theorem grid_Ahead_eq (a b : List Int) (ha : a.length ≤ 100000) (hb : b.length ≤ 100000) : Ev (fun k => grid_Ahead.f k a b) (ahead a b) := by
  unfold grid_Ahead.f
  refine Ev.bind (grid_table_eq a.length b.length ha hb) ?_
  have := grid_Ahead_l0 a b ha hb a.length 0 (fun _ _ => 0) (by omega) (fun p q hp hq => by
    obtain rfl : p = 0 := by omega
    rw [H_zero_left]; rfl) (fun _ _ => rfl)
  exact this

def trow (a b : List Int) (p : Nat) : List Int := seq (b.length + 1) fun q => (T a b p q : Int)
theorem tattingref7_Behind_l1 (a b : List Int) (ha : a.length ≤ 100000) (hb : b.length ≤ 100000) (r : List (List Int)) (i : Nat) (hi : i < a.length) (F : Nat → List Int) (hF : ∀ p, i < p → p ≤ a.length → F p = trow a b p)
    (hr : ∀ G : Nat → List Int, (∀ p, i ≤ p → p ≤ a.length → G p = trow a b p) → Ev (fun k => tattingref7_Behind.l0 k a b (seq (a.length + 1) G) ((i : Int) - 1)) r) : ∀ (j : Nat) (g : Nat → Int), j ≤ b.length → (∀ q, j ≤ q → q ≤ b.length → g q = T a b i q) →
    Ev (fun k => tattingref7_Behind.l1 k a b (seq (a.length + 1) (upd F i (seq (b.length + 1) g))) i ((j : Int) - 1)) r := by
  intro j
  induction j with
  | zero =>
    intro g hj h2
    refine Ev.step (f := fun k => tattingref7_Behind.j2 k a b (seq (a.length + 1) (upd F i (seq (b.length + 1) g))) i (((0 : Nat) : Int) - 1) false) (fun k => ?_) ?_
    · have e : decide ((((0 : Nat) : Int) - 1) ≥ 0) = false := decide_eq_false (by omega)
      rw [tattingref7_Behind.l1, if_pos (by omega), e]
    · refine Ev.step (fun k => ?_) (hr (upd F i (seq (b.length + 1) g)) (fun p hp hp' => ?_))
      · rw [tattingref7_Behind.j2, ift, wr (by omega) (by omega)]
      · by_cases h : p = i
        · subst h; rw [upd_same]; exact seq_ext fun q hq => h2 q (by omega) (by omega)
        · rw [upd_ne _ _ h]; exact hF p (by omega) hp'
  | succ j ih =>
    intro g hj h2
    refine Ev.step (f := fun k => tattingref7_Behind.j2 k a b (seq (a.length + 1) (upd F i (seq (b.length + 1) g))) i (((j + 1 : Nat) : Int) - 1) true) (fun k => ?_) ?_
    · have e : decide ((((j + 1 : Nat) : Int) - 1) ≥ 0) = true := decide_eq_true (by omega)
      rw [tattingref7_Behind.l1, if_pos (by omega), e]
    have hF1 := hF (i + 1) (by omega) (by omega)
    have hu : upd F i (seq (b.length + 1) g) (i + 1) = trow a b (i + 1) := by rw [upd_ne _ _ (by omega)]; exact hF1
    have l0 := seq_length (a.length + 1) (upd F i (seq (b.length + 1) g))
    have l1 := seq_length (b.length + 1) g
    have l2 : (trow a b (i + 1)).length = b.length + 1 := seq_length _ _
    have e1 : rd a (i : Int) = a.getD i 0 := rfl
    have e2 : rd b ((((j + 1 : Nat) : Int)) - 1) = b.getD j 0 := rd_at (by omega)
    have e3 := rd_L1_seq (n := a.length + 1) (upd F i (seq (b.length + 1) g)) (i := (i : Int)) (p := i) (by omega) rfl
    rw [upd_same] at e3
    have e4 := rd_L1_seq (n := a.length + 1) (upd F i (seq (b.length + 1) g)) (i := (i : Int) + 1) (p := i + 1) (by omega) (by omega)
    rw [hu] at e4
    have e5 : rd (trow a b (i + 1)) ((((j + 1 : Nat) : Int)) - 1 + 1) = T a b (i + 1) (j + 1) := rd_seq (n := b.length + 1) (fun q => (T a b (i + 1) q : Int)) (p := j + 1) (by omega) (by omega)
    have e6 : rd (trow a b (i + 1)) ((((j + 1 : Nat) : Int)) - 1) = T a b (i + 1) j := rd_seq (n := b.length + 1) (fun q => (T a b (i + 1) q : Int)) (p := j) (by omega) (by omega)
    have e7 := rd_seq (n := b.length + 1) g (i := (((j + 1 : Nat) : Int)) - 1 + 1) (p := j + 1) (by omega) (by omega)
    have hs := T_step (a := a) (b := b) (i := i) (j := j) hi (by omega)
    have t1 := T_le_left a b (i + 1) (j + 1)
    have v3 := h2 (j + 1) (by omega) (by omega)
    have key : ∀ v : Int, v = T a b i j → Ev (fun k => tattingref7_Behind.l1 k a b ((seq (a.length + 1) (upd F i (seq (b.length + 1) g))).set (i : Int).toNat ((seq (b.length + 1) g).set ((((j + 1 : Nat) : Int)) - 1).toNat v)) i ((((j + 1 : Nat) : Int)) - 1 - 1)) r := by
      intro v hv
      rw [show ((((j + 1 : Nat) : Int)) - 1).toNat = j by omega, show ((((j + 1 : Nat) : Int)) - 1 - 1) = (j : Int) - 1 by omega, Int.toNat_natCast, seq_set, seq_set]
      have hg := ih (upd g j v) (by omega) (fun q hq hq' => by
        by_cases h : q = j
        · subst h; rw [upd_same, hv]
        · rw [upd_ne _ _ h]; exact h2 q (by omega) hq')
      have e : upd (upd F i (seq (b.length + 1) g)) i (seq (b.length + 1) (upd g j v)) = upd F i (seq (b.length + 1) (upd g j v)) := by
        funext p
        by_cases h : p = i
        · subst h; rw [upd_same, upd_same]
        · rw [upd_ne _ _ h, upd_ne _ _ h, upd_ne _ _ h]
      rw [e]; exact hg
    by_cases hab : a.getD i 0 = b.getD j 0
    · refine Ev.step (fun k => ?_) (key (T a b (i + 1) (j + 1) + 1) ?_)
      · simp (disch := omega) only [tattingref7_Behind.j2, itt, ifT, wr, if_pos, e1, e2, e3, e4, e5, l0, l1, l2, if_pos hab]
      · rw [hs, if_pos hab]; simp
    · refine Ev.step (fun k => ?_) (key (mx (T a b (i + 1) j) (g (j + 1))) ?_)
      · simp (disch := omega) only [tattingref7_Behind.j2, itt, ifT, wr, if_pos, e1, e2, e3, e4, e6, e7, l0, l1, l2]
        simp (disch := omega) only [if_neg hab, if_pos, wr]
      · rw [hs, if_neg hab, v3]; unfold mx; omega
theorem tattingref7_Behind_l0 (a b : List Int) (ha : a.length ≤ 100000) (hb : b.length ≤ 100000) : ∀ (i : Nat) (F : Nat → List Int), i ≤ a.length →
    (∀ p, i ≤ p → p ≤ a.length → F p = trow a b p) → Ev (fun k => tattingref7_Behind.l0 k a b (seq (a.length + 1) F) ((i : Int) - 1)) (behind a b) := by
  intro i
  induction i with
  | zero =>
    intro F hi h1
    refine Ev.step (f := fun _ => some _) (fun k => ?_) (Ev.now _)
    simp (disch := omega) only [tattingref7_Behind.l0, if_neg]
    congr 1
    exact seq_ext fun p hp => h1 p (by omega) (by omega)
  | succ i ih =>
    intro F hi h1
    refine Ev.step (fun k => ?_) (tattingref7_Behind_l1 a b ha hb (behind a b) i (by omega) F (fun p hp hp' => h1 p (by omega) hp') (fun G hG => ih G (by omega) hG) b.length (fun _ => 0) (by omega) (fun q hq hq' => ?_))
    · have l0 := seq_length (a.length + 1) F
      have e : ((b.length : Int) + 1).toNat = b.length + 1 := by omega
      simp (disch := omega) only [tattingref7_Behind.l0, wr, if_pos, e, l0, seq_const, seq_set]
      rw [show ((((i + 1 : Nat) : Int)) - 1) = (i : Int) by omega, Int.toNat_natCast]
    · rw [T_out_right (by omega)]; rfl
theorem tattingref7_Behind_eq (a b : List Int) (ha : a.length ≤ 100000) (hb : b.length ≤ 100000) : Ev (fun k => tattingref7_Behind.f k a b) (behind a b) := by
  have hrow : (seq (b.length + 1) fun _ => (0 : Int)) = trow a b a.length := seq_ext fun q hq => by rw [T_out_left (by omega)]; rfl
  have h0 := tattingref7_Behind_l0 a b ha hb a.length (upd (fun _ => []) a.length (seq (b.length + 1) fun _ => 0)) (by omega) (fun p hp hp' => by
    obtain rfl : p = a.length := by omega
    rw [upd_same, hrow])
  have h1 : Ev (fun k => tattingref7_Behind.l1 k a b (seq (a.length + 1) (upd (fun _ => []) a.length (seq (b.length + 1) fun _ => 0))) a.length ((b.length : Int) - 1)) (behind a b) := by
    refine Ev.step (f := fun k => tattingref7_Behind.j2 k a b (seq (a.length + 1) (upd (fun _ => []) a.length (seq (b.length + 1) fun _ => 0))) a.length ((b.length : Int) - 1) false) (fun k => ?_) (Ev.step (fun k => ?_) h0)
    · rw [tattingref7_Behind.l1, if_neg (by omega)]
    · rw [tattingref7_Behind.j2, ift, wr (by omega) (by omega)]
  have h2 : Ev (fun k => tattingref7_Behind.l0 k a b (seq (a.length + 1) (fun _ => [])) a.length) (behind a b) := by
    refine Ev.step (fun k => ?_) h1
    have l0 := seq_length (a.length + 1) (fun _ => ([] : List Int))
    have e : ((b.length : Int) + 1).toNat = b.length + 1 := by omega
    simp (disch := omega) only [tattingref7_Behind.l0, wr, if_pos, e, l0, seq_const, seq_set]
    rw [Int.toNat_natCast]
  refine Ev.congr (fun k => ?_) h2
  have e : ((a.length : Int) + 1).toNat = a.length + 1 := by omega
  unfold tattingref7_Behind.f
  simp (disch := omega) only [wr, if_pos, e, seq_const]

theorem tattingref7_Turned_l0 (a : List Int) (ha : a.length ≤ 1000000) : ∀ (i k : Nat), i ≤ a.length → i < k →
    tattingref7_Turned.l0 k a (a.drop i).reverse ((i : Int) - 1) = some a.reverse := by
  intro i
  induction i with
  | zero =>
    intro k hi hk
    obtain ⟨k, rfl⟩ : ∃ m, k = m + 1 := ⟨k - 1, by omega⟩
    simp (disch := omega) only [tattingref7_Turned.l0, if_neg]
    simp
  | succ i ih =>
    intro k hi hk
    obtain ⟨k, rfl⟩ : ∃ m, k = m + 1 := ⟨k - 1, by omega⟩
    have e1 : rd a ((((i + 1 : Nat) : Int)) - 1) = a.getD i 0 := rd_at (by omega)
    have h4 := ih k (by omega) (by omega)
    have hl : (a.drop (i + 1)).reverse.length ≤ a.length := by simp
    rw [drop_getD (show i < a.length by omega), List.reverse_cons] at h4
    simp (disch := omega) only [tattingref7_Turned.l0, if_pos, e1, wr]
    rw [show (((i + 1 : Nat) : Int)) - 1 - 1 = (i : Int) - 1 by omega]
    exact h4
theorem tattingref7_Turned_eq (a : List Int) (ha : a.length ≤ 1000000) (k : Nat) (hk : a.length < k) : tattingref7_Turned.f k a = some a.reverse := by
  have := tattingref7_Turned_l0 a ha a.length k (by omega) hk
  unfold tattingref7_Turned.f
  rw [wr (by omega) (by omega)]
  simpa using this

theorem tattingref1_SameInts_l0 (a b : List Int) (ha : a.length ≤ 1000000) (hl : a.length = b.length) : ∀ (d k i : Nat), i + d = a.length → d < k →
    tattingref1_SameInts.l0 k a b i = some (decide (a.drop i = b.drop i)) := by
  intro d
  induction d with
  | zero =>
    intro k i hi hk
    obtain ⟨k, rfl⟩ : ∃ m, k = m + 1 := ⟨k - 1, by omega⟩
    simp (disch := omega) only [tattingref1_SameInts.l0, if_neg]
    rw [List.drop_eq_nil_of_le (by omega), List.drop_eq_nil_of_le (by omega)]; simp
  | succ d ih =>
    intro k i hi hk
    obtain ⟨k, rfl⟩ : ∃ m, k = m + 1 := ⟨k - 1, by omega⟩
    have e1 : rd a (i : Int) = a.getD i 0 := rfl
    have e2 : rd b (i : Int) = b.getD i 0 := rfl
    simp (disch := omega) only [tattingref1_SameInts.l0, if_pos, e1, e2, wr]
    have h4 := ih k (i + 1) (by omega) (by omega)
    simp only [Int.natCast_add, Int.cast_ofNat_Int] at h4
    rw [h4, drop_getD (show i < a.length by omega), drop_getD (show i < b.length by omega)]
    by_cases h : a.getD i 0 = b.getD i 0
    · rw [if_pos h]; simp only [List.cons.injEq, h, true_and]
    · rw [if_neg h]; simp only [List.cons.injEq]; rw [decide_eq_false (fun e => h e.1)]
theorem tattingref1_SameInts_eq (a b : List Int) (ha : a.length ≤ 1000000) (k : Nat) (hk : a.length < k) : tattingref1_SameInts.f k a b = some (decide (a = b)) := by
  unfold tattingref1_SameInts.f
  by_cases h : (a.length : Int) = b.length
  · rw [if_pos h]
    have := tattingref1_SameInts_l0 a b ha (by omega) a.length k 0 (by omega) hk
    simpa using this
  · rw [if_neg h, decide_eq_false]
    rintro rfl; exact h rfl

theorem tattingref1_SameLists_l0 (x : List (List Int)) (hx : x.length ≤ 1000000) (K : Nat) (hK : ∀ r ∈ x, r.length ≤ 1000000 ∧ r.length < K) : ∀ (d k i : Nat), i + d = x.length → d + K < k →
    tattingref1_SameLists.l0 k x x i = some true := by
  intro d
  induction d with
  | zero =>
    intro k i hi hk
    obtain ⟨k, rfl⟩ : ∃ m, k = m + 1 := ⟨k - 1, by omega⟩
    simp (disch := omega) only [tattingref1_SameLists.l0, if_neg]
  | succ d ih =>
    intro k i hi hk
    obtain ⟨k, rfl⟩ : ∃ m, k = m + 1 := ⟨k - 1, by omega⟩
    have e1 : rd_L1 x (i : Int) = x[i] := by unfold rd_L1; rw [Int.toNat_natCast]; simp [List.getD_eq_getElem?_getD, show i < x.length by omega]
    have hm := hK x[i] (List.getElem_mem _)
    have h5 := tattingref1_SameInts_eq x[i] x[i] hm.1 k (by omega)
    rw [decide_eq_true rfl] at h5
    simp (disch := omega) only [tattingref1_SameLists.l0, if_pos, e1, wr, h5, bs, itt, ifT]
    have h4 := ih k (i + 1) (by omega) (by omega)
    simpa using h4
theorem tattingref1_SameLists_same (x : List (List Int)) (hx : x.length ≤ 1000000) (K : Nat) (hK : ∀ r ∈ x, r.length ≤ 1000000 ∧ r.length < K) (k : Nat) (hk : x.length + K < k) : tattingref1_SameLists.f k x x = some true := by
  unfold tattingref1_SameLists.f
  rw [if_pos rfl]
  exact tattingref1_SameLists_l0 x hx K hK x.length k 0 (by omega) hk

def arow (a b : List Int) (p : Nat) : List Int := seq (b.length + 1) fun q => (H a b p q : Int)
theorem T_turned (a b : List Int) (i j : Nat) (hi : i ≤ a.length) (hj : j ≤ b.length) : T a.reverse b.reverse (a.length - i) (b.length - j) = H a b i j := by
  unfold T H
  rw [List.drop_reverse, List.drop_reverse, lcs_reverse, show a.length - (a.length - i) = i by omega, show b.length - (b.length - j) = j by omega]
theorem behind_turned (a b : List Int) (i j : Nat) (hi : i ≤ a.length) (hj : j ≤ b.length) : (rd_L1 (behind a.reverse b.reverse) ((a.length - i : Nat) : Int)).length = b.length + 1 ∧ rd (rd_L1 (behind a.reverse b.reverse) ((a.length - i : Nat) : Int)) ((b.length - j : Nat) : Int) = (H a b i j : Int) := by
  unfold behind
  rw [List.length_reverse, List.length_reverse, rd_L1_seq _ (show a.length - i < a.length + 1 by omega) rfl, seq_length, rd_seq _ (show b.length - j < b.length + 1 by omega) rfl, T_turned a b i j hi hj]
  exact ⟨rfl, rfl⟩
theorem AheadB_l1 (a b : List Int) (ha : a.length ≤ 100000) (hb : b.length ≤ 100000) (i : Nat) (hi : i ≤ a.length) (F : Nat → List Int) (hF : ∀ p, p < i → F p = arow a b p) {R : List (List Int)}
    (hr : ∀ G : Nat → List Int, (∀ p, p < i + 1 → G p = arow a b p) → Ev (fun k => tattingref7_AheadB.l0 k a b (behind a.reverse b.reverse) (seq (a.length + 1) G) ((i : Int) + 1)) R) : ∀ (d j : Nat) (g : Nat → Int), j + d = b.length + 1 → (∀ q, q < j → g q = H a b i q) →
    Ev (fun k => tattingref7_AheadB.l1 k a b (behind a.reverse b.reverse) (seq (a.length + 1) (upd F i (seq (b.length + 1) g))) i j) R := by
  have hlen : (behind a.reverse b.reverse).length = a.length + 1 := by unfold behind; rw [seq_length, List.length_reverse]
  intro d
  induction d with
  | zero =>
    intro j g hj hg
    refine Ev.step (fun k => ?_) (hr (upd F i (seq (b.length + 1) g)) (fun p hp => ?_))
    · rw [tattingref7_AheadB.l1, if_neg (by omega), wr (by omega) (by omega)]
    · by_cases e : p = i
      · subst e; rw [upd_same]; exact seq_ext fun q hq => hg q (by omega)
      · rw [upd_ne _ _ e]; exact hF p (by omega)
  | succ d ih =>
    intro j g hj hg
    obtain ⟨b1, b2⟩ := behind_turned a b i j hi (by omega)
    have e0 : rd_L1 (seq (a.length + 1) (upd F i (seq (b.length + 1) g))) (i : Int) = seq (b.length + 1) g := by
      rw [rd_L1_seq _ (show i < a.length + 1 by omega) rfl, upd_same]
    have w1 : ((a.length : Int) - i) = ((a.length - i : Nat) : Int) := by omega
    have w2 : ((b.length : Int) - j) = ((b.length - j : Nat) : Int) := by omega
    have l1 := seq_length (a.length + 1) (upd F i (seq (b.length + 1) g))
    have l2 := seq_length (b.length + 1) g
    have h4 := ih (j + 1) (upd g j (H a b i j)) (by omega) (fun q hq => by
      by_cases e : q = j
      · subst e; rw [upd_same]
      · rw [upd_ne _ _ e]; exact hg q (by omega))
    refine Ev.step (fun k => ?_) h4
    simp only [Int.natCast_add, Int.cast_ofNat_Int]
    rw [tattingref7_AheadB.l1, if_pos (by omega), if_pos (by omega), if_pos (by omega), e0, wr (x := (a.length : Int) - i) (by omega) (by omega), wr (x := (b.length : Int) - j) (by omega) (by omega), w1, w2, b1, b2,
      if_pos (by omega), if_pos (by omega), if_pos (by omega), if_pos (by omega), if_pos (by omega), if_pos (by omega), Int.toNat_natCast, Int.toNat_natCast, seq_set, seq_set, wr (x := (j : Int) + 1) (by omega) (by omega)]
    congr 1
    refine seq_ext fun p hp => ?_
    by_cases e : p = i
    · subst e; rw [upd_same, upd_same]
    · rw [upd_ne _ _ e, upd_ne _ _ e, upd_ne _ _ e]
theorem AheadB_l0 (a b : List Int) (ha : a.length ≤ 100000) (hb : b.length ≤ 100000) : ∀ (d i : Nat) (F : Nat → List Int), i + d = a.length + 1 → (∀ p, p < i → F p = arow a b p) →
    Ev (fun k => tattingref7_AheadB.l0 k a b (behind a.reverse b.reverse) (seq (a.length + 1) F) i) (ahead a b) := by
  intro d
  induction d with
  | zero =>
    intro i F hi hF
    refine Ev.step (f := fun _ => some (ahead a b)) (fun k => ?_) (Ev.now _)
    rw [tattingref7_AheadB.l0, if_neg (by omega)]
    congr 1
    exact seq_ext fun p hp => hF p (by omega)
  | succ d ih =>
    intro i F hi hF
    have h1 := AheadB_l1 a b ha hb i (by omega) F hF (R := ahead a b) (fun G hG => by
      have := ih (i + 1) G (by omega) hG
      simpa using this) (b.length + 1) 0 (fun _ => 0) (by omega) (fun q hq => by omega)
    refine Ev.step (fun k => ?_) h1
    have l1 := seq_length (a.length + 1) F
    have w1 : ((b.length : Int) + 1).toNat = b.length + 1 := by omega
    rw [tattingref7_AheadB.l0, if_pos (by omega), wr (x := (b.length : Int) + 1) (by omega) (by omega), if_pos (by omega), if_pos (by omega), if_pos (by omega), if_pos (by omega), w1, Int.toNat_natCast, seq_const, seq_set]
    rfl
theorem tattingref7_Ahead_eq (a b : List Int) (ha : a.length ≤ 100000) (hb : b.length ≤ 100000) : Ev (fun k => tattingref7_Ahead.f k a b) (ahead a b) := by
  have la : a.reverse.length = a.length := List.length_reverse
  have lb : b.reverse.length = b.length := List.length_reverse
  obtain ⟨K1, h1⟩ := tattingref7_Behind_eq a.reverse b.reverse (by omega) (by omega)
  obtain ⟨K2, h2⟩ := AheadB_l0 a b ha hb (a.length + 1) 0 (fun _ => []) (by omega) (fun p hp => by omega)
  refine ⟨300000 + K1 + K2, fun k hk => ?_⟩
  have e1 : tattingref7_Behind.f k a.reverse b.reverse = some _ := h1 k (by omega)
  have e2 : tattingref7_AheadB.l0 k a b (behind a.reverse b.reverse) (seq (a.length + 1) fun _ => []) ((0 : Nat) : Int) = some _ := h2 k (by omega)
  have w1 : ((a.length : Int) + 1).toNat = a.length + 1 := by omega
  show tattingref7_Ahead.f k a b = some _
  unfold tattingref7_Ahead.f tattingref7_AheadA.f tattingref7_AheadB.f
  rw [tattingref7_Turned_eq a (by omega) k (by omega), bs, tattingref7_Turned_eq b (by omega) k (by omega), bs, e1, bs, bs, wr (x := (a.length : Int) + 1) (by omega) (by omega), if_pos (by omega), if_pos (by omega), w1, seq_const]
  exact e2

theorem awake_ev : ∃ K, tattinglaw8_awake.f K = some true := ⟨400, by decide +kernel⟩
theorem law_GridAhead : tattinglaw8_GridAhead.Pure := by
  intro a b _ _ _ _ _ _
  have haw : Ev tattinglaw8_awake.f true := by
    obtain ⟨K, h⟩ := awake_ev
    exact Ev.of tattinglaw8_awake.mono h
  refine Ev.rounds (g := fun k => tattinglaw8_GridAhead.f k a b) ?_
  unfold tattinglaw8_GridAhead.f
  refine Ev.bind haw ?_
  simp only [itt, ifT]
  by_cases ha : (a.length : Int) > 40
  · refine Ev.step (f := fun _ => some true) (fun k => ?_) (Ev.now _)
    rw [if_pos ha, tattinglaw8_GridAhead.j0, itt]
  by_cases hb : (b.length : Int) > 40
  · refine Ev.step (f := fun _ => some true) (fun k => ?_) (Ev.now _)
    rw [if_neg ha, decide_eq_true hb, tattinglaw8_GridAhead.j0, itt]
  simp only [if_neg ha, decide_eq_false hb]
  have hB : ∀ r ∈ ahead a b, r.length ≤ 1000000 ∧ r.length < 100 := by
    intro r hr
    obtain ⟨i, -, rfl⟩ := List.mem_map.1 hr
    have := seq_length (b.length + 1) fun j => (H a b i j : Int)
    omega
  have hl : (ahead a b).length = a.length + 1 := seq_length _ _
  obtain ⟨K1, h1⟩ := grid_Ahead_eq a b (by omega) (by omega)
  obtain ⟨K2, h2⟩ := tattingref7_Ahead_eq a b (by omega) (by omega)
  refine ⟨1000 + K1 + K2, fun k hk => ?_⟩
  obtain ⟨k, rfl⟩ : ∃ m, k = m + 1 := ⟨k - 1, by omega⟩
  have e1 : grid_Ahead.f k a b = some _ := h1 k (by omega)
  have e2 : tattingref7_Ahead.f k a b = some _ := h2 k (by omega)
  have h3 := tattingref1_SameLists_same (ahead a b) (by omega) 100 hB k (by omega)
  show tattinglaw8_GridAhead.j0 (k + 1) a b false = some true
  rw [tattinglaw8_GridAhead.j0, ift, e1, bs, e2, bs, h3, bs]

theorem GridAhead : tattinglaw8_GridAhead.Pure := law_GridAhead

end Go.Proofs.Ytknfcipjbhhldaa.Pure
namespace Go.Proofs.Ytknfcipjbhhldaa.PrintWords
/-- The row's word under the name by which the row calls it. -/
abbrev sized_ints := @Go.Proofs.YtknfcipjbhhldaaW.PrintWords.sized_ints
end Go.Proofs.Ytknfcipjbhhldaa.PrintWords
