/- What stands at every pairs places: the law PairsValues holds, with no condition. -/
import Derived.Test.YtpodjfnmncpnmaaPPairsValuesx4
import Derived.Test.YtpodjfnmncpnmaaWSized
namespace Go.Proofs.Ytpodjfnmncpnmaa.Pure
open Go.RowKit Go.Proofs.Ytpodjfnmncpnmaa.PPairsValues Go.Proofs.YtpodjfnmncpnmaaW.PrintWords Go.Proofs.YtpodjfnmncpnmaaW.PrintLast Go.Proofs.YtpodjfnmncpnmaaW.PrintMore
set_option linter.unusedVariables false
set_option linter.unusedSimpArgs false

/-! Words for the pure side: whole numbers that do not wrap, reads of lists. -/
theorem wr {x : Int} (h : -9223372036854775808 ≤ x) (h' : x < 9223372036854775808) : wrap64 x = x := by unfold wrap64; omega
theorem rd_nat (xs : List Int) (n : Nat) : rd xs (n : Int) = xs.getD n 0 := rfl
theorem rd_at {xs : List Int} {i : Int} {n : Nat} (h : i = (n : Int)) : rd xs i = xs.getD n 0 := by subst h; rfl
theorem drop_getD {xs : List Int} {i : Nat} (h : i < xs.length) : xs.drop i = xs.getD i 0 :: xs.drop (i + 1) := by
  rw [List.drop_eq_getElem_cons h]; simp [List.getD_eq_getElem?_getD, h]
theorem take_getD {xs : List Int} {i : Nat} (h : i < xs.length) : xs.take (i + 1) = xs.take i ++ [xs.getD i 0] := by
  rw [List.take_succ_eq_append_getElem h]; simp [List.getD_eq_getElem?_getD, h]

theorem lz_bind {α β : Type} {a a' : Option α} {f : α → Option β} (h : a = a') : a.bind f = a'.bind f := by rw [h]
theorem lz_ite {α : Type} {c c' : Prop} [s : Decidable c] [s' : Decidable c'] {t e : α} (h : c = c') : ite c t e = ite c' t e := by
  subst h; rw [Subsingleton.elim s s']
attribute [local congr] lz_bind lz_ite
theorem bs {α β : Type} (a : α) (f : α → Option β) : (some a).bind f = f a := by simp
theorem itt {α : Type} (t e : α) : (if (true = true) then t else e) = t := by simp
theorem ift {α : Type} (t e : α) : (if (false = true) then t else e) = e := by simp
theorem ifT {α : Type} (t e : α) : (if True then t else e) = t := by simp
theorem ifF {α : Type} (t e : α) : (if False then t else e) = e := by simp

/-! The longest common subsequence of two lists of whole numbers: no program in sight. -/

def lcs : List Int → List Int → Nat
  | [], _ => 0
  | _ :: _, [] => 0
  | a :: xt, b :: yt => if a = b then lcs xt yt + 1 else max (lcs xt (b :: yt)) (lcs (a :: xt) yt)
termination_by xs ys => xs.length + ys.length

@[simp] theorem lcs_nil_left (ys : List Int) : lcs [] ys = 0 := by cases ys <;> simp [lcs]
@[simp] theorem lcs_nil_right (xs : List Int) : lcs xs [] = 0 := by cases xs <;> simp [lcs]
theorem lcs_cons (a b : Int) (xt yt : List Int) : lcs (a :: xt) (b :: yt) = if a = b then lcs xt yt + 1 else max (lcs xt (b :: yt)) (lcs (a :: xt) yt) := by
  rw [lcs]

theorem lcs_ub (xs ys : List Int) : ∀ s : List Int, s.Sublist xs → s.Sublist ys → s.length ≤ lcs xs ys := by
  induction xs, ys using lcs.induct with
  | case1 ys => intro s h _; simp at h; subst h; simp
  | case2 a xt => intro s _ h; simp at h; subst h; simp
  | case3 xt b yt ih =>
    intro s h1 h2
    rw [lcs_cons, if_pos rfl]
    cases s with
    | nil => simp
    | cons c s =>
      have h1' : s.Sublist xt := by
        cases h1 with
        | cons _ h => exact (List.sublist_cons_self c s).trans h
        | cons_cons _ h => exact h
      have h2' : s.Sublist yt := by
        cases h2 with
        | cons _ h => exact (List.sublist_cons_self c s).trans h
        | cons_cons _ h => exact h
      have := ih s h1' h2'
      simp; omega
  | case4 a xt b yt hne ih1 ih2 =>
    intro s h1 h2
    rw [lcs_cons, if_neg hne]
    cases s with
    | nil => simp
    | cons c s =>
      by_cases hc : c = a
      · subst hc
        have h2' : (c :: s).Sublist yt := by
          cases h2 with
          | cons _ h => exact h
          | cons_cons _ h => exact absurd rfl hne
        have := ih2 _ h1 h2'
        omega
      · have h1' : (c :: s).Sublist xt := by
          cases h1 with
          | cons _ h => exact h
          | cons_cons _ h => exact absurd rfl hc
        have := ih1 _ h1' h2
        omega

theorem lcs_ex (xs ys : List Int) : ∃ s : List Int, s.Sublist xs ∧ s.Sublist ys ∧ s.length = lcs xs ys := by
  induction xs, ys using lcs.induct with
  | case1 ys => exact ⟨[], by simp⟩
  | case2 a xt => exact ⟨[], by simp⟩
  | case3 xt b yt ih =>
    obtain ⟨s, h1, h2, h3⟩ := ih
    exact ⟨b :: s, h1.cons_cons b, h2.cons_cons b, by rw [lcs_cons, if_pos rfl]; simp [h3]⟩
  | case4 a xt b yt hne ih1 ih2 =>
    rw [lcs_cons, if_neg hne]
    by_cases h : lcs (a :: xt) yt ≤ lcs xt (b :: yt)
    · obtain ⟨s, h1, h2, h3⟩ := ih1
      exact ⟨s, h1.cons a, h2, by omega⟩
    · obtain ⟨s, h1, h2, h3⟩ := ih2
      exact ⟨s, h1, h2.cons b, by omega⟩

theorem lcs_unique {xs ys : List Int} {n : Nat} (h : ∃ s : List Int, s.Sublist xs ∧ s.Sublist ys ∧ s.length = n) (h' : ∀ s : List Int, s.Sublist xs → s.Sublist ys → s.length ≤ n) : lcs xs ys = n := by
  obtain ⟨s, h1, h2, h3⟩ := h
  obtain ⟨t, h4, h5, h6⟩ := lcs_ex xs ys
  have := lcs_ub xs ys s h1 h2
  have := h' t h4 h5
  omega

theorem lcs_comm (xs ys : List Int) : lcs xs ys = lcs ys xs := by
  obtain ⟨s, h1, h2, h3⟩ := lcs_ex ys xs
  exact lcs_unique ⟨s, h2, h1, h3⟩ fun t a b => lcs_ub ys xs t b a

theorem lcs_reverse (xs ys : List Int) : lcs xs.reverse ys.reverse = lcs xs ys := by
  obtain ⟨s, h1, h2, h3⟩ := lcs_ex xs ys
  refine lcs_unique ⟨s.reverse, h1.reverse, h2.reverse, by simp [h3]⟩ fun t a b => ?_
  have := lcs_ub xs ys t.reverse (by simpa using a.reverse) (by simpa using b.reverse)
  simpa using this

theorem lcs_mono {xs xs' ys ys' : List Int} (h : xs.Sublist xs') (h' : ys.Sublist ys') : lcs xs ys ≤ lcs xs' ys' := by
  obtain ⟨s, h1, h2, h3⟩ := lcs_ex xs ys
  have := lcs_ub xs' ys' s (h1.trans h) (h2.trans h')
  omega

theorem lcs_le_left (xs ys : List Int) : lcs xs ys ≤ xs.length := by
  obtain ⟨s, h1, _, h3⟩ := lcs_ex xs ys
  have := h1.length_le
  omega
theorem lcs_le_right (xs ys : List Int) : lcs xs ys ≤ ys.length := by rw [lcs_comm]; exact lcs_le_left _ _

theorem lcs_self (xs : List Int) : lcs xs xs = xs.length := by
  have := lcs_ub xs xs xs (List.Sublist.refl _) (List.Sublist.refl _)
  have := lcs_le_left xs xs
  omega

theorem lcs_cons_same (a : Int) (xs ys : List Int) : lcs (a :: xs) (a :: ys) = lcs xs ys + 1 := by rw [lcs_cons, if_pos rfl]

theorem lcs_cons_le (a : Int) (xs ys : List Int) : lcs (a :: xs) ys ≤ lcs xs ys + 1 := by
  obtain ⟨s, h1, h2, h3⟩ := lcs_ex (a :: xs) ys
  cases s with
  | nil => simp at h3; omega
  | cons c s =>
    have h1' : s.Sublist xs := by
      cases h1 with
      | cons _ h => exact (List.sublist_cons_self c s).trans h
      | cons_cons _ h => exact h
    have := lcs_ub xs ys s h1' ((List.sublist_cons_self c s).trans h2)
    simp at h3; omega
theorem lcs_cons_le_right (b : Int) (xs ys : List Int) : lcs xs (b :: ys) ≤ lcs xs ys + 1 := by
  rw [lcs_comm, lcs_comm xs ys]; exact lcs_cons_le b ys xs

theorem lcs_snoc_same (a : Int) (xs ys : List Int) : lcs (xs ++ [a]) (ys ++ [a]) = lcs xs ys + 1 := by
  rw [← lcs_reverse, ← lcs_reverse xs ys]; simp [lcs_cons_same]
theorem lcs_snoc (a b : Int) (xs ys : List Int) : lcs (xs ++ [a]) (ys ++ [b]) = if a = b then lcs xs ys + 1 else max (lcs xs (ys ++ [b])) (lcs (xs ++ [a]) ys) := by
  rw [← lcs_reverse, ← lcs_reverse xs ys, ← lcs_reverse xs (ys ++ [b]), ← lcs_reverse (xs ++ [a]) ys]
  simp [lcs_cons]
theorem lcs_snoc_le (a : Int) (xs ys : List Int) : lcs (xs ++ [a]) ys ≤ lcs xs ys + 1 := by
  rw [← lcs_reverse, ← lcs_reverse xs ys]; simp only [List.reverse_append, List.reverse_cons, List.reverse_nil, List.nil_append, List.singleton_append]; exact lcs_cons_le _ _ _

/-- Cut both lists anywhere: never more together. -/
theorem lcs_append_ge (xs xs' ys ys' : List Int) : lcs xs ys + lcs xs' ys' ≤ lcs (xs ++ xs') (ys ++ ys') := by
  obtain ⟨s, h1, h2, h3⟩ := lcs_ex xs ys
  obtain ⟨t, h4, h5, h6⟩ := lcs_ex xs' ys'
  have := lcs_ub (xs ++ xs') (ys ++ ys') (s ++ t) (h1.append h4) (h2.append h5)
  simp at this; omega

theorem sublist_append_split {s xs ys : List Int} (h : s.Sublist (xs ++ ys)) : ∃ s1 s2, s = s1 ++ s2 ∧ s1.Sublist xs ∧ s2.Sublist ys := by
  obtain ⟨l1, l2, rfl, h1, h2⟩ := List.sublist_append_iff.1 h
  exact ⟨l1, l2, rfl, h1, h2⟩

/-- Cut the first list: somewhere in the second one both together are just xt much. -/
theorem lcs_cut (xs xs' ys : List Int) : ∃ j, j ≤ ys.length ∧ lcs (xs ++ xs') ys = lcs xs (ys.take j) + lcs xs' (ys.drop j) := by
  obtain ⟨s, h1, h2, h3⟩ := lcs_ex (xs ++ xs') ys
  obtain ⟨s1, s2, rfl, h4, h5⟩ := sublist_append_split h1
  obtain ⟨l1, l2, rfl, h6, h7⟩ := List.append_sublist_iff.1 h2
  refine ⟨l1.length, by simp, ?_⟩
  have a1 := lcs_ub xs l1 s1 h4 h6
  have a2 := lcs_ub xs' l2 s2 h5 h7
  have a3 := lcs_append_ge xs xs' l1 l2
  simp only [List.take_left, List.drop_left]
  simp at h3; omega

/-- The same ahead of both: xt much more. -/
theorem lcs_prefix (p xs ys : List Int) : lcs (p ++ xs) (p ++ ys) = p.length + lcs xs ys := by
  induction p with
  | nil => simp
  | cons a p ih => simp only [List.cons_append, lcs_cons_same, ih, List.length_cons]; omega
theorem lcs_suffix (p xs ys : List Int) : lcs (xs ++ p) (ys ++ p) = p.length + lcs xs ys := by
  rw [← lcs_reverse, ← lcs_reverse xs ys]; simp [lcs_prefix]

/-- The distance. -/
def dist (xs ys : List Int) : Nat := xs.length + ys.length - 2 * lcs xs ys
theorem dist_add (xs ys : List Int) : dist xs ys + 2 * lcs xs ys = xs.length + ys.length := by
  have := lcs_le_left xs ys
  have := lcs_le_right xs ys
  unfold dist; omega
theorem dist_comm (xs ys : List Int) : dist xs ys = dist ys xs := by
  have := dist_add xs ys
  have := dist_add ys xs
  have := lcs_comm xs ys
  omega
theorem lcs_full {xs ys : List Int} (h : lcs xs ys = xs.length) (h' : lcs xs ys = ys.length) : xs = ys := by
  obtain ⟨s, h1, h2, h3⟩ := lcs_ex xs ys
  have e1 := h1.eq_of_length (by omega)
  have e2 := h2.eq_of_length (by omega)
  rw [← e1, ← e2]
theorem dist_zero_iff (xs ys : List Int) : dist xs ys = 0 ↔ xs = ys := by
  constructor
  · intro h
    have := dist_add xs ys
    have := lcs_le_left xs ys
    have := lcs_le_right xs ys
    exact lcs_full (by omega) (by omega)
  · rintro rfl
    have := dist_add xs xs
    have := lcs_self xs
    omega

/-- Two parts of one list have at least so much in common. -/
theorem sublist_both : ∀ (z s t : List Int), s.Sublist z → t.Sublist z → ∃ u : List Int, u.Sublist s ∧ u.Sublist t ∧ s.length + t.length ≤ z.length + u.length := by
  intro z
  induction z with
  | nil => intro s t h1 h2; simp at h1 h2; subst h1; subst h2; exact ⟨[], by simp⟩
  | cons c z ih =>
    intro s t h1 h2
    cases h1 with
    | cons _ h1 =>
      cases h2 with
      | cons _ h2 => obtain ⟨u, a, b, l⟩ := ih s t h1 h2; exact ⟨u, a, b, by simp; omega⟩
      | cons_cons _ h2 => rename_i t; obtain ⟨u, a, b, l⟩ := ih s t h1 h2; exact ⟨u, a, b.cons _, by simp; omega⟩
    | cons_cons _ h1 =>
      rename_i s
      cases h2 with
      | cons _ h2 => obtain ⟨u, a, b, l⟩ := ih s t h1 h2; exact ⟨u, a.cons _, b, by simp; omega⟩
      | cons_cons _ h2 => rename_i t; obtain ⟨u, a, b, l⟩ := ih s t h1 h2; exact ⟨c :: u, a.cons_cons _, b.cons_cons _, by simp; omega⟩
theorem dist_triangle (xs zs ys : List Int) : dist xs ys ≤ dist xs zs + dist zs ys := by
  obtain ⟨s, h1, h2, h3⟩ := lcs_ex xs zs
  obtain ⟨t, h4, h5, h6⟩ := lcs_ex zs ys
  obtain ⟨u, a, b, l⟩ := sublist_both zs s t h2 h4
  have := lcs_ub xs ys u (a.trans h1) (b.trans h5)
  have := dist_add xs ys
  have := dist_add xs zs
  have := dist_add zs ys
  omega


/-! Lists told place by place. -/
def seq {α : Type} (n : Nat) (F : Nat → α) : List α := (List.range n).map F
def upd {α : Type} (F : Nat → α) (i : Nat) (v : α) : Nat → α := fun j => if j = i then v else F j
theorem upd_same {α : Type} (F : Nat → α) (i : Nat) (v : α) : upd F i v i = v := by simp [upd]
theorem upd_ne {α : Type} (F : Nat → α) {i j : Nat} (v : α) (h : j ≠ i) : upd F i v j = F j := by simp [upd, h]
theorem seq_length {α : Type} (n : Nat) (F : Nat → α) : (seq n F).length = n := by simp [seq]
theorem seq_getD {α : Type} {n : Nat} (F : Nat → α) {i : Nat} (h : i < n) (d : α) : (seq n F).getD i d = F i := by simp [seq, h, List.getD_eq_getElem?_getD]
theorem seq_getElem {α : Type} {n : Nat} (F : Nat → α) {i : Nat} (h : i < (seq n F).length) : (seq n F)[i] = F i := by simp [seq]
theorem seq_ext {α : Type} {n : Nat} {F G : Nat → α} (h : ∀ i, i < n → F i = G i) : seq n F = seq n G := by
  unfold seq; exact List.map_congr_left fun i hi => h i (List.mem_range.1 hi)
theorem seq_set {α : Type} {n : Nat} (F : Nat → α) (i : Nat) (v : α) : (seq n F).set i v = seq n (upd F i v) := by
  apply List.ext_getElem
  · simp [seq_length]
  · intro j h1 h2
    rw [List.getElem_set, seq_getElem, seq_getElem]
    unfold upd
    by_cases h : i = j
    · rw [if_pos h, if_pos h.symm]
    · rw [if_neg h, if_neg (fun e => h e.symm)]
theorem seq_const {α : Type} (n : Nat) (v : α) : List.replicate n v = seq n (fun _ => v) := by
  apply List.ext_getElem
  · simp [seq_length]
  · intro j h1 h2; simp [seq]
theorem seq_snoc {α : Type} (n : Nat) (F : Nat → α) : seq (n + 1) F = seq n F ++ [F n] := by simp [seq, List.range_succ]
theorem seq_of {α : Type} (xs : List α) (d : α) : xs = seq xs.length (fun i => xs.getD i d) := by
  apply List.ext_getElem
  · simp [seq_length]
  · intro j h1 h2; rw [seq_getElem]; simp [List.getD_eq_getElem?_getD, h1]
theorem seq_inj {α : Type} {n : Nat} {F G : Nat → α} (h : seq n F = seq n G) : ∀ i, i < n → F i = G i := by
  intro i hi
  have := congrArg (fun l => l[i]?) h
  simpa [seq, hi] using this
theorem rd_seq {n : Nat} (F : Nat → Int) {i : Int} {p : Nat} (h : p < n) (e : i = (p : Int)) : rd (seq n F) i = F p := by
  subst e; rw [rd_nat, seq_getD F h]

/-- What both lists have in common behind two places. -/
def T (a b : List Int) (i j : Nat) : Nat := lcs (a.drop i) (b.drop j)
theorem T_out_left {a b : List Int} {i j : Nat} (h : a.length ≤ i) : T a b i j = 0 := by unfold T; rw [List.drop_eq_nil_of_le h]; simp
theorem T_out_right {a b : List Int} {i j : Nat} (h : b.length ≤ j) : T a b i j = 0 := by unfold T; rw [List.drop_eq_nil_of_le h]; simp
theorem T_step {a b : List Int} {i j : Nat} (h : i < a.length) (h' : j < b.length) : T a b i j = if a.getD i 0 = b.getD j 0 then T a b (i + 1) (j + 1) + 1 else max (T a b (i + 1) j) (T a b i (j + 1)) := by
  unfold T; rw [drop_getD h, drop_getD h', lcs_cons]
theorem T_le_left (a b : List Int) (i j : Nat) : T a b i j ≤ a.length - i := by have := lcs_le_left (a.drop i) (b.drop j); unfold T; simpa using this
theorem T_le_right (a b : List Int) (i j : Nat) : T a b i j ≤ b.length - j := by have := lcs_le_right (a.drop i) (b.drop j); unfold T; simpa using this
theorem T_zero (a b : List Int) : T a b 0 0 = lcs a b := rfl
theorem T_down (a b : List Int) (i j : Nat) : T a b (i + 1) j ≤ T a b i j := by
  unfold T; refine lcs_mono ?_ (List.Sublist.refl _)
  rw [← List.drop_drop]; exact List.drop_sublist _ _
theorem T_right (a b : List Int) (i j : Nat) : T a b i (j + 1) ≤ T a b i j := by
  unfold T; refine lcs_mono (List.Sublist.refl _) ?_
  rw [← List.drop_drop]; exact List.drop_sublist _ _
/-- The whole table. -/
def behind (a b : List Int) : List (List Int) := seq (a.length + 1) fun i => seq (b.length + 1) fun j => (T a b i j : Int)

/-- Pairs that rise in both, from behind two places on, each of alike numbers. -/
def okPair (a b : List Int) (li lj : Int) (x : S24) : Bool := decide (0 ≤ x.f0) && decide (x.f0 < a.length) && decide (0 ≤ x.f1) && decide (x.f1 < b.length) && decide (rd a x.f0 = rd b x.f1) && decide (li < x.f0) && decide (lj < x.f1)
def good (a b : List Int) : Int → Int → List S24 → Bool
  | _, _, [] => true
  | li, lj, x :: l => okPair a b li lj x && good a b x.f0 x.f1 l
theorem okPair_iff (a b : List Int) (li lj : Int) (x : S24) : okPair a b li lj x = true ↔ 0 ≤ x.f0 ∧ x.f0 < a.length ∧ 0 ≤ x.f1 ∧ x.f1 < b.length ∧ rd a x.f0 = rd b x.f1 ∧ li < x.f0 ∧ lj < x.f1 := by
  simp [okPair, and_assoc]
theorem good_cons (a b : List Int) (li lj : Int) (x : S24) (l : List S24) : good a b li lj (x :: l) = true ↔ okPair a b li lj x = true ∧ good a b x.f0 x.f1 l = true := by simp [good]
theorem good_weaken {a b : List Int} {li lj li' lj' : Int} (hi : li' ≤ li) (hj : lj' ≤ lj) : ∀ {l : List S24}, good a b li lj l = true → good a b li' lj' l = true
  | [], _ => rfl
  | x :: l, h => by
    rw [good_cons, okPair_iff] at h ⊢
    obtain ⟨⟨h1, h2, h3, h4, h5, h6, h7⟩, h8⟩ := h
    exact ⟨⟨h1, h2, h3, h4, h5, by omega, by omega⟩, h8⟩
/-- A good list is no longer than what both have in common behind. -/
theorem good_len {a b : List Int} : ∀ (l : List S24) (i j : Nat), good a b ((i : Int) - 1) ((j : Int) - 1) l = true → l.length ≤ T a b i j
  | [], i, j, _ => Nat.zero_le _
  | x :: l, i, j, h => by
    rw [good_cons, okPair_iff] at h
    obtain ⟨⟨h1, h2, h3, h4, h5, h6, h7⟩, h8⟩ := h
    obtain ⟨p, hp⟩ := Int.eq_ofNat_of_zero_le h1
    obtain ⟨q, hq⟩ := Int.eq_ofNat_of_zero_le h3
    have ih := good_len l (p + 1) (q + 1) (by rw [hp, hq] at h8; simpa using h8)
    rw [hp, hq, rd_nat, rd_nat] at h5
    have hs := T_step (a := a) (b := b) (i := p) (j := q) (by omega) (by omega)
    rw [if_pos h5] at hs
    have e1 : T a b p q ≤ T a b i q := by
      unfold T; refine lcs_mono ?_ (List.Sublist.refl _)
      rw [show p = i + (p - i) by omega, ← List.drop_drop]; exact List.drop_sublist _ _
    have e2 : T a b i q ≤ T a b i j := by
      unfold T; refine lcs_mono (List.Sublist.refl _) ?_
      rw [show q = j + (q - j) by omega, ← List.drop_drop]; exact List.drop_sublist _ _
    simp only [List.length_cons]; omega
def prevI (l : List S24) (p : Nat) : Int := if p = 0 then -1 else (l.getD (p - 1) z24).f0
def prevJ (l : List S24) (p : Nat) : Int := if p = 0 then -1 else (l.getD (p - 1) z24).f1
theorem drop_getD_pair {xs : List S24} {i : Nat} (h : i < xs.length) : xs.drop i = xs.getD i z24 :: xs.drop (i + 1) := by
  rw [List.drop_eq_getElem_cons h]; simp [List.getD_eq_getElem?_getD, h]

theorem tattingref1_SameInts_l0 (a b : List Int) (ha : a.length ≤ 1000000) (hl : a.length = b.length) : ∀ (d k i : Nat), i + d = a.length → d < k →
    tattingref1_SameInts.l0 k a b i = some (decide (a.drop i = b.drop i)) := by
  intro d
  induction d with
  | zero =>
    intro k i hi hk
    obtain ⟨k, rfl⟩ : ∃ m, k = m + 1 := ⟨k - 1, by omega⟩
    simp (disch := omega) only [tattingref1_SameInts.l0, if_neg]
    rw [List.drop_eq_nil_of_le (by omega), List.drop_eq_nil_of_le (by omega)]; simp
  | succ d ih =>
    intro k i hi hk
    obtain ⟨k, rfl⟩ : ∃ m, k = m + 1 := ⟨k - 1, by omega⟩
    have e1 : rd a (i : Int) = a.getD i 0 := rfl
    have e2 : rd b (i : Int) = b.getD i 0 := rfl
    simp (disch := omega) only [tattingref1_SameInts.l0, if_pos, e1, e2, wr]
    have h4 := ih k (i + 1) (by omega) (by omega)
    simp only [Int.natCast_add, Int.cast_ofNat_Int] at h4
    rw [h4, drop_getD (show i < a.length by omega), drop_getD (show i < b.length by omega)]
    by_cases h : a.getD i 0 = b.getD i 0
    · rw [if_pos h]; simp only [List.cons.injEq, h, true_and]
    · rw [if_neg h]; simp only [List.cons.injEq]; rw [decide_eq_false (fun e => h e.1)]
theorem tattingref1_SameInts_eq (a b : List Int) (ha : a.length ≤ 1000000) (k : Nat) (hk : a.length < k) : tattingref1_SameInts.f k a b = some (decide (a = b)) := by
  unfold tattingref1_SameInts.f
  by_cases h : (a.length : Int) = b.length
  · rw [if_pos h]
    have := tattingref1_SameInts_l0 a b ha (by omega) a.length k 0 (by omega) hk
    simpa using this
  · rw [if_neg h, decide_eq_false]
    rintro rfl; exact h rfl

def turnP (l : List S24) : List S24 := l.map fun p => ⟨p.f1, p.f0⟩
def moveP (i j : Int) (l : List S24) : List S24 := l.map fun p => ⟨wrap64 (p.f0 + i), wrap64 (p.f1 + j)⟩
theorem turnP_length (l : List S24) : (turnP l).length = l.length := by simp [turnP]
theorem moveP_length (i j : Int) (l : List S24) : (moveP i j l).length = l.length := by simp [moveP]
theorem turnP_turnP (l : List S24) : turnP (turnP l) = l := by
  unfold turnP
  rw [List.map_map]
  exact (List.map_congr_left (fun p _ => by cases p; rfl)).trans (List.map_id l)
theorem turnP_moveP (i j : Int) (l : List S24) : turnP (moveP i j l) = moveP j i (turnP l) := by simp [turnP, moveP]
theorem good_turn (a b : List Int) : ∀ (l : List S24) (p q : Int), good b a q p (turnP l) = good a b p q l
  | [], _, _ => rfl
  | x :: l, p, q => by
    rw [Bool.eq_iff_iff]
    unfold turnP
    rw [List.map_cons, good_cons, good_cons, okPair_iff, okPair_iff]
    have h := good_turn a b l x.f0 x.f1
    unfold turnP at h
    rw [h]
    exact ⟨fun ⟨⟨h1, h2, h3, h4, h5, h6, h7⟩, h8⟩ => ⟨⟨h3, h4, h1, h2, h5.symm, h7, h6⟩, h8⟩, fun ⟨⟨h1, h2, h3, h4, h5, h6, h7⟩, h8⟩ => ⟨⟨h3, h4, h1, h2, h5.symm, h7, h6⟩, h8⟩⟩
theorem rd_ahead (u a : List Int) (i : Int) (n : Nat) (hu : u.length = n) (h : 0 ≤ i) : rd (u ++ a) (i + n) = rd a i := by
  obtain ⟨p, rfl⟩ := Int.eq_ofNat_of_zero_le h
  rw [show (p : Int) + n = ((n + p : Nat) : Int) by omega, rd_nat, rd_nat, List.getD_eq_getElem?_getD, List.getD_eq_getElem?_getD, List.getElem?_append_right (by omega)]
  congr 2; omega
theorem good_move (a b u v : List Int) (n m : Nat) (hu : u.length = n) (hv : v.length = m) (ha : a.length ≤ 1000000) (hb : b.length ≤ 1000000) (hn : n ≤ 1000000) (hm : m ≤ 1000000) : ∀ (l : List S24) (p q : Int), good a b p q l = true → good (u ++ a) (v ++ b) (p + n) (q + m) (moveP n m l) = true
  | [], _, _, _ => rfl
  | x :: l, p, q, h => by
    unfold moveP
    rw [List.map_cons]
    rw [good_cons, okPair_iff] at h ⊢
    obtain ⟨⟨h1, h2, h3, h4, h5, h6, h7⟩, h8⟩ := h
    have ih := good_move a b u v n m hu hv ha hb hn hm l x.f0 x.f1 h8
    unfold moveP at ih
    rw [wr (by omega) (by omega), wr (by omega) (by omega)]
    dsimp only
    rw [rd_ahead u a x.f0 n hu h1, rd_ahead v b x.f1 m hv h3, List.length_append, List.length_append]
    exact ⟨⟨by omega, by omega, by omega, by omega, h5, by omega, by omega⟩, ih⟩
def valuesP (a : List Int) : List S24 → List Int
  | [] => []
  | x :: l => if 0 ≤ x.f0 ∧ x.f0 < a.length then rd a x.f0 :: valuesP a l else valuesP a l
theorem valuesP_length (a : List Int) : ∀ l : List S24, (valuesP a l).length ≤ l.length
  | [] => Nat.le_refl _
  | x :: l => by
    have := valuesP_length a l
    unfold valuesP
    split <;> simp <;> omega
theorem valuesP_snoc (a : List Int) (x : S24) : ∀ l : List S24, valuesP a (l ++ [x]) = valuesP a l ++ (if 0 ≤ x.f0 ∧ x.f0 < a.length then [rd a x.f0] else [])
  | [] => by simp [valuesP]
  | y :: l => by
    rw [List.cons_append, valuesP, valuesP, valuesP_snoc a x l]
    split <;> simp
theorem good_values {a b : List Int} : ∀ (l : List S24) (p q : Int), good a b p q l = true → (valuesP a l).length = l.length ∧ valuesP b (turnP l) = valuesP a l
  | [], _, _, _ => ⟨rfl, rfl⟩
  | x :: l, p, q, h => by
    rw [good_cons, okPair_iff] at h
    obtain ⟨⟨h1, h2, h3, h4, h5, h6, h7⟩, h8⟩ := h
    obtain ⟨i1, i2⟩ := good_values l _ _ h8
    unfold turnP at i2 ⊢
    rw [List.map_cons, valuesP, valuesP, if_pos ⟨h1, h2⟩, if_pos ⟨h3, h4⟩, i2, h5]
    exact ⟨by simp [i1], rfl⟩
theorem good_values_sub {a b : List Int} : ∀ (l : List S24) (p q : Nat), good a b ((p : Int) - 1) ((q : Int) - 1) l = true → (valuesP a l).Sublist (a.drop p)
  | [], _, _, _ => by simp [valuesP]
  | x :: l, p, q, h => by
    rw [good_cons, okPair_iff] at h
    obtain ⟨⟨h1, h2, h3, h4, h5, h6, h7⟩, h8⟩ := h
    obtain ⟨i, hi⟩ := Int.eq_ofNat_of_zero_le h1
    obtain ⟨j, hj⟩ := Int.eq_ofNat_of_zero_le h3
    have ih := good_values_sub l (i + 1) (j + 1) (by rw [hi, hj] at h8; simpa using h8)
    rw [valuesP, if_pos ⟨h1, h2⟩, hi, rd_nat]
    have e : (a.drop i).Sublist (a.drop p) := by
      rw [show i = p + (i - p) by omega, ← List.drop_drop]; exact List.drop_sublist _ _
    refine List.Sublist.trans ?_ e
    rw [drop_getD (show i < a.length by omega)]
    exact ih.cons_cons _
/-- Taken greedily, a list lies within another one just if it is a sublist of it. -/
def greedy : List Int → List Int → Bool
  | [], _ => true
  | _ :: _, [] => false
  | x :: s, y :: b => if y = x then greedy s b else greedy (x :: s) b
theorem greedy_iff (s b : List Int) : greedy s b = true ↔ s.Sublist b := by
  induction b generalizing s with
  | nil => cases s <;> simp [greedy]
  | cons y b ih =>
    cases s with
    | nil => simp [greedy]
    | cons x s =>
      by_cases c : y = x
      · rw [greedy, if_pos c, ih, c]
        exact ⟨fun h => h.cons_cons _, fun h => List.cons_sublist_cons.1 h⟩
      · rw [greedy, if_neg c, ih]
        refine ⟨fun h => h.cons _, fun h => ?_⟩
        cases h with
        | cons _ h => exact h
        | cons_cons _ h => exact absurd rfl c

theorem take_getD_pair {xs : List S24} {i : Nat} (h : i < xs.length) : xs.take (i + 1) = xs.take i ++ [xs.getD i z24] := by
  rw [List.take_succ_eq_append_getElem h]; simp [List.getD_eq_getElem?_getD, h]
theorem valuesP_take (a : List Int) (l : List S24) (p : Nat) (h : p < l.length) : valuesP a (l.take (p + 1)) = valuesP a (l.take p) ++ (if 0 ≤ (l.getD p z24).f0 ∧ (l.getD p z24).f0 < a.length then [rd a (l.getD p z24).f0] else []) := by
  rw [take_getD_pair h, valuesP_snoc]
theorem pairs_is_eq (a : List Int) (i : Int) : pairs_is.f a i = some (decide (0 ≤ i ∧ i < a.length)) := by
  unfold pairs_is.f
  by_cases h : i ≥ 0
  · rw [if_pos h]; congr 1; rw [decide_eq_decide]; omega
  · rw [if_neg h]; congr 1; symm; exact decide_eq_false (by omega)
theorem pairs_Values_l0 (a : List Int) (l : List S24) (hl : l.length ≤ 1000000) : ∀ (d k p : Nat), p + d = l.length → d < k →
    pairs_Values.l0 k a (valuesP a (l.take p)) l l.length p = some (valuesP a l) := by
  intro d
  induction d with
  | zero =>
    intro k p hp hk
    obtain ⟨k, rfl⟩ : ∃ m, k = m + 1 := ⟨k - 1, by omega⟩
    rw [pairs_Values.l0, if_neg (by omega), List.take_of_length_le (by omega)]
  | succ d ih =>
    intro k p hp hk
    obtain ⟨k, rfl⟩ : ∃ m, k = m + 1 := ⟨k - 1, by omega⟩
    have e1 : rd_T24 l (p : Int) = l.getD p z24 := rfl
    have h4 := ih k (p + 1) (by omega) (by omega)
    simp only [Int.natCast_add, Int.cast_ofNat_Int] at h4
    have hv := valuesP_length a (l.take p)
    have ht : (l.take p).length ≤ l.length := by simp; omega
    rw [valuesP_take a l p (by omega)] at h4
    rw [pairs_Values.l0, if_pos (by omega), if_pos (by omega), if_pos (by omega), e1, pairs_is_eq, bs, wr (by omega) (by omega)]
    generalize l.getD p z24 = x at *
    by_cases c : 0 ≤ x.f0 ∧ x.f0 < a.length
    · rw [decide_eq_true c, itt, if_pos c.1, if_pos c.2, if_pos (by omega)]
      rw [if_pos c] at h4; exact h4
    · rw [decide_eq_false c, ift]
      rw [if_neg c, List.append_nil] at h4; exact h4
theorem pairs_Values_eq (a : List Int) (l : List S24) (hl : l.length ≤ 1000000) (k : Nat) (hk : l.length < k) : pairs_Values.f k a l = some (valuesP a l) := by
  have := pairs_Values_l0 a l hl l.length k 0 (by omega) hk
  unfold pairs_Values.f
  simpa [valuesP] using this
theorem tattingref7_Values_l0 (a : List Int) (l : List S24) (hl : l.length ≤ 1000000) : ∀ (d k p : Nat), p + d = l.length → d < k →
    tattingref7_Values.l0 k a l (valuesP a (l.take p)) p = some (valuesP a l) := by
  intro d
  induction d with
  | zero =>
    intro k p hp hk
    obtain ⟨k, rfl⟩ : ∃ m, k = m + 1 := ⟨k - 1, by omega⟩
    rw [tattingref7_Values.l0, if_neg (by omega), List.take_of_length_le (by omega)]
  | succ d ih =>
    intro k p hp hk
    obtain ⟨k, rfl⟩ : ∃ m, k = m + 1 := ⟨k - 1, by omega⟩
    have e1 : rd_T24 l (p : Int) = l.getD p z24 := rfl
    have h4 := ih k (p + 1) (by omega) (by omega)
    simp only [Int.natCast_add, Int.cast_ofNat_Int] at h4
    have hv := valuesP_length a (l.take p)
    have ht : (l.take p).length ≤ l.length := by simp; omega
    rw [valuesP_take a l p (by omega)] at h4
    rw [tattingref7_Values.l0, if_pos (by omega), if_pos (by omega), e1, wr (by omega) (by omega)]
    generalize l.getD p z24 = x at *
    by_cases c : 0 ≤ x.f0 ∧ x.f0 < a.length
    · rw [if_pos (by omega), if_pos (by omega), if_pos (by omega), if_pos (by omega)]
      rw [if_pos c] at h4; exact h4
    · rw [if_neg c, List.append_nil] at h4
      by_cases c1 : x.f0 ≥ 0
      · rw [if_pos c1, if_neg (by omega)]; exact h4
      · rw [if_neg c1]; exact h4
theorem tattingref7_Values_eq (a : List Int) (l : List S24) (hl : l.length ≤ 1000000) (k : Nat) (hk : l.length < k) : tattingref7_Values.f k a l = some (valuesP a l) := by
  have := tattingref7_Values_l0 a l hl l.length k 0 (by omega) hk
  unfold tattingref7_Values.f
  simpa [valuesP] using this

theorem set_snoc (A : List S24) (m p : Nat) (z v : S24) (h : A.length = p) : (A ++ List.replicate (m + 1) z).set p v = (A ++ [v]) ++ List.replicate m z := by
  rw [List.set_append_right _ _ (by omega), h, Nat.sub_self, List.replicate_succ, List.set_cons_zero]; simp
theorem pairs_Turn_l0 (l : List S24) (hl : l.length ≤ 1000000) : ∀ (d k p : Nat), p + d = l.length → d < k →
    pairs_Turn.l0 k (turnP (l.take p) ++ List.replicate d z24) l l.length p = some (turnP l) := by
  intro d
  induction d with
  | zero =>
    intro k p hp hk
    obtain ⟨k, rfl⟩ : ∃ m, k = m + 1 := ⟨k - 1, by omega⟩
    rw [pairs_Turn.l0, if_neg (by omega), List.take_of_length_le (by omega)]; simp
  | succ d ih =>
    intro k p hp hk
    obtain ⟨k, rfl⟩ : ∃ m, k = m + 1 := ⟨k - 1, by omega⟩
    have e1 : rd_T24 l (p : Int) = l.getD p z24 := rfl
    have h4 := ih k (p + 1) (by omega) (by omega)
    have hA : (turnP (l.take p)).length = p := by rw [turnP_length]; simp; omega
    have hlen : (turnP (l.take p) ++ List.replicate (d + 1) z24).length = l.length := by simp [hA]; omega
    rw [pairs_Turn.l0, if_pos (by omega), if_pos (by omega), if_pos (by omega), if_pos (by omega), e1, Int.toNat_natCast, set_snoc _ d p _ _ hA, wr (by omega) (by omega)]
    rw [take_getD_pair (show p < l.length by omega)] at h4
    unfold turnP at h4 ⊢
    rw [List.map_append] at h4
    exact_mod_cast h4
theorem pairs_Turn_eq (l : List S24) (hl : l.length ≤ 1000000) (k : Nat) (hk : l.length < k) : pairs_Turn.f k l = some (turnP l) := by
  have := pairs_Turn_l0 l hl l.length k 0 (by omega) hk
  unfold pairs_Turn.f
  rw [if_pos (by omega), Int.toNat_natCast, if_pos (by omega)]
  simpa [turnP] using this

theorem pairs_Good_l0 (a b : List Int) (l : List S24) (hl : l.length ≤ 1000000) : ∀ (d k p : Nat) (li lj : Int), p + d = l.length → d < k →
    pairs_Good.l0 k a b l l.length p li lj = some (good a b li lj (l.drop p)) := by
  intro d
  induction d with
  | zero =>
    intro k p li lj hp hk
    obtain ⟨k, rfl⟩ : ∃ m, k = m + 1 := ⟨k - 1, by omega⟩
    rw [pairs_Good.l0, if_neg (by omega), List.drop_eq_nil_of_le (by omega)]
    rfl
  | succ d ih =>
    intro k p li lj hp hk
    obtain ⟨k, rfl⟩ : ∃ m, k = m + 1 := ⟨k - 1, by omega⟩
    have e1 : rd_T24 l (p : Int) = l.getD p z24 := rfl
    rw [drop_getD_pair (show p < l.length by omega)]
    rw [pairs_Good.l0, if_pos (by omega), if_pos (by omega), if_pos (by omega), e1]
    generalize l.getD p z24 = x at *
    have h4 := ih k (p + 1) x.f0 x.f1 (by omega) (by omega)
    simp only [Int.natCast_add, Int.cast_ofNat_Int] at h4
    rw [pairs_is_eq, bs]
    by_cases c1 : 0 ≤ x.f0 ∧ x.f0 < a.length
    · rw [decide_eq_true c1, itt, pairs_is_eq, bs]
      by_cases c2 : 0 ≤ x.f1 ∧ x.f1 < b.length
      · rw [decide_eq_true c2, itt, if_pos c1.1, if_pos c1.2, if_pos c2.1, if_pos c2.2]
        by_cases c5 : rd a x.f0 = rd b x.f1
        · rw [if_pos c5]
          by_cases c7 : x.f0 ≤ li
          · rw [if_pos c7]
            symm; congr 1; rw [← Bool.not_eq_true, good_cons, okPair_iff]; omega
          rw [if_neg c7]
          by_cases c8 : x.f1 ≤ lj
          · rw [if_pos c8]
            symm; congr 1; rw [← Bool.not_eq_true, good_cons, okPair_iff]; omega
          rw [if_neg c8, wr (by omega) (by omega), h4]
          congr 1
          rw [Bool.eq_iff_iff, good_cons, okPair_iff]
          exact ⟨fun h => ⟨⟨by omega, by omega, by omega, by omega, c5, by omega, by omega⟩, h⟩, fun h => h.2⟩
        · rw [if_neg c5]
          symm; congr 1; rw [← Bool.not_eq_true, good_cons, okPair_iff]; exact fun h => c5 h.1.2.2.2.2.1
      · rw [decide_eq_false c2, ift]
        symm; congr 1; rw [← Bool.not_eq_true, good_cons, okPair_iff]; omega
    · rw [decide_eq_false c1, ift]
      symm; congr 1; rw [← Bool.not_eq_true, good_cons, okPair_iff]; omega
theorem pairs_Good_eq (a b : List Int) (l : List S24) (hl : l.length ≤ 1000000) (k : Nat) (hk : l.length < k) : pairs_Good.f k a b l = some (good a b (-1) (-1) l) := by
  have := pairs_Good_l0 a b l hl l.length k 0 (-1) (-1) (by omega) hk
  unfold pairs_Good.f
  simpa using this

theorem tattingref7_Within_l0 (s b : List Int) (hs : s.length ≤ 1000000) (hb : b.length ≤ 1000000) : ∀ (d k p q : Nat), p ≤ s.length → q + d = b.length → 2 * d + 1 < k →
    tattingref7_Within.l0 k s b p q = some (greedy (s.drop p) (b.drop q)) := by
  intro d
  induction d with
  | zero =>
    intro k p q hp hq hk
    obtain ⟨k, rfl⟩ : ∃ m, k = m + 1 + 1 := ⟨k - 2, by omega⟩
    rw [tattingref7_Within.l0, if_neg (by omega), tattingref7_Within.j1, ift, List.drop_eq_nil_of_le (show b.length ≤ q by omega)]
    by_cases c : p < s.length
    · rw [drop_getD c, greedy, beq_eq_false_iff_ne.2 (by omega)]
    · rw [List.drop_eq_nil_of_le (by omega), greedy, beq_iff_eq.2 (by omega)]
  | succ d ih =>
    intro k p q hp hq hk
    obtain ⟨k, rfl⟩ : ∃ m, k = m + 1 + 1 := ⟨k - 2, by omega⟩
    rw [tattingref7_Within.l0, if_pos (by omega)]
    by_cases c : p < s.length
    · have e1 : rd s (p : Int) = s.getD p 0 := rfl
      have e2 : rd b (q : Int) = b.getD q 0 := rfl
      have h1 := ih k (p + 1) (q + 1) (by omega) (by omega) (by omega)
      have h2 := ih k p (q + 1) (by omega) (by omega) (by omega)
      simp only [Int.natCast_add, Int.cast_ofNat_Int] at h1 h2
      rw [decide_eq_true (by omega), tattingref7_Within.j1, itt, if_pos (by omega), if_pos (by omega), if_pos (by omega), if_pos (by omega), wr (by omega) (by omega), wr (by omega) (by omega), e1, e2, h1, h2,
        drop_getD c, drop_getD (show q < b.length by omega), greedy]
      split <;> rfl
    · rw [decide_eq_false (by omega), tattingref7_Within.j1, ift, List.drop_eq_nil_of_le (show s.length ≤ p by omega), beq_iff_eq.2 (by omega)]
      cases b.drop q <;> rfl
theorem tattingref7_Within_eq (s b : List Int) (hs : s.length ≤ 1000000) (hb : b.length ≤ 1000000) (k : Nat) (hk : 2 * b.length + 1 < k) : tattingref7_Within.f k s b = some (greedy s b) := by
  unfold tattingref7_Within.f
  exact tattingref7_Within_l0 s b hs hb b.length k 0 0 (by omega) (by omega) hk

theorem awake_400 : tattinglaw7_awake.f 400 = some true := by decide +kernel
theorem law_PairsValues : tattinglaw7_PairsValues.Pure := by
  intro a b l _ _ _ _ _ _ _ _
  refine ⟨401, ?_⟩
  have haw : tattinglaw7_awake.f 401 = some true := tattinglaw7_awake.mono 400 _ awake_400
  unfold tattinglaw7_PairsValues.f
  rw [haw, bs, itt]
  by_cases ha : (a.length : Int) > 40
  · rw [if_pos ha, tattinglaw7_PairsValues.j0, itt]
  rw [if_neg ha]
  by_cases hb : (b.length : Int) > 40
  · rw [if_pos hb, tattinglaw7_PairsValues.j0, itt]
  rw [if_neg hb]
  by_cases hl : (l.length : Int) > 40
  · rw [decide_eq_true hl, tattinglaw7_PairsValues.j0, itt]
  have h1 := turnP_length l
  have h2 := valuesP_length a l
  rw [decide_eq_false hl, tattinglaw7_PairsValues.j0, ift, pairs_Values_eq a l (by omega) _ (by omega), bs, pairs_Turn_eq l (by omega) _ (by omega), bs, pairs_Values_eq b _ (by omega) _ (by omega), bs,
    tattingref7_Values_eq a l (by omega) _ (by omega), bs, tattingref1_SameInts_eq _ _ (by omega) _ (by omega), bs, decide_eq_true rfl, itt, pairs_Good_eq a b l (by omega) _ (by omega), bs]
  by_cases hg : good a b (-1) (-1) l = true
  · obtain ⟨g1, g2⟩ := good_values l _ _ hg
    have g3 := good_values_sub l 0 0 hg
    have hg' : good b a (-1) (-1) (turnP l) = true := by rw [good_turn]; exact hg
    have g4 := good_values_sub (turnP l) 0 0 hg'
    rw [g2] at g4
    rw [List.drop_zero] at g3 g4
    rw [if_pos hg, if_pos (by omega), g2, tattingref1_SameInts_eq _ _ (by omega) _ (by omega), bs, decide_eq_true rfl, itt,
      tattingref7_Within_eq _ _ (by omega) (by omega) _ (by omega), bs, (greedy_iff _ _).2 g3, itt, tattingref7_Within_eq _ _ (by omega) (by omega) _ (by omega), bs, (greedy_iff _ _).2 g4]
  · rw [if_neg hg]

theorem PairsValues : tattinglaw7_PairsValues.Pure := law_PairsValues

end Go.Proofs.Ytpodjfnmncpnmaa.Pure
namespace Go.Proofs.Ytpodjfnmncpnmaa.PrintWords
/-- The row's word under the name by which the row calls it. -/
abbrev sized_ints := @Go.Proofs.YtpodjfnmncpnmaaW.PrintWords.sized_ints
end Go.Proofs.Ytpodjfnmncpnmaa.PrintWords
