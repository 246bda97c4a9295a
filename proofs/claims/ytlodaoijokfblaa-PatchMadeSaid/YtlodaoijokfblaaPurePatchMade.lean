/- The script that is made of the least list carries the one text to the other, and back. Over lists alone. -/
import Derived.Test.YtlodaoijokfblaaPPatchMadex8
namespace Go.Proofs.Ytlodaoijokfblaa.Pure
open Go.RowKit Go.Proofs.YtlodaoijokfblaaW.PrintWords Go.Proofs.YtlodaoijokfblaaW.PrintLast Go.Proofs.YtlodaoijokfblaaW.PrintMore Go.Proofs.Ytlodaoijokfblaa.PPatchMade
set_option linter.unusedVariables false
set_option linter.unusedSimpArgs false

/-! Words for the pure side: whole numbers that do not wrap, reads of lists. -/
theorem wr {x : Int} (h : -9223372036854775808 ≤ x) (h' : x < 9223372036854775808) : wrap64 x = x := by unfold wrap64; omega
theorem rd_nat (xs : List Int) (n : Nat) : rd xs (n : Int) = xs.getD n 0 := rfl
theorem rd_at {xs : List Int} {i : Int} {n : Nat} (h : i = (n : Int)) : rd xs i = xs.getD n 0 := by subst h; rfl
theorem drop_getD {xs : List Int} {i : Nat} (h : i < xs.length) : xs.drop i = xs.getD i 0 :: xs.drop (i + 1) := by
  rw [List.drop_eq_getElem_cons h]; simp [List.getD_eq_getElem?_getD, h]
theorem take_getD {xs : List Int} {i : Nat} (h : i < xs.length) : xs.take (i + 1) = xs.take i ++ [xs.getD i 0] := by
  rw [List.take_succ_eq_append_getElem h]; simp [List.getD_eq_getElem?_getD, h]

theorem lz_bind {α β : Type} {a a' : Option α} {f : α → Option β} (h : a = a') : a.bind f = a'.bind f := by rw [h]
theorem lz_ite {α : Type} {c c' : Prop} [s : Decidable c] [s' : Decidable c'] {t e : α} (h : c = c') : ite c t e = ite c' t e := by
  subst h; rw [Subsingleton.elim s s']
attribute [local congr] lz_bind lz_ite
theorem bs {α β : Type} (a : α) (f : α → Option β) : (some a).bind f = f a := by simp
theorem itt {α : Type} (t e : α) : (if (true = true) then t else e) = t := by simp
theorem ift {α : Type} (t e : α) : (if (false = true) then t else e) = e := by simp
theorem ifT {α : Type} (t e : α) : (if True then t else e) = t := by simp
theorem ifF {α : Type} (t e : α) : (if False then t else e) = e := by simp

/-! The longest common subsequence of two lists of whole numbers: no program in sight. -/

def lcs : List Int → List Int → Nat
  | [], _ => 0
  | _ :: _, [] => 0
  | a :: xt, b :: yt => if a = b then lcs xt yt + 1 else max (lcs xt (b :: yt)) (lcs (a :: xt) yt)
termination_by xs ys => xs.length + ys.length

@[simp] theorem lcs_nil_left (ys : List Int) : lcs [] ys = 0 := by cases ys <;> simp [lcs]
@[simp] theorem lcs_nil_right (xs : List Int) : lcs xs [] = 0 := by cases xs <;> simp [lcs]
theorem lcs_cons (a b : Int) (xt yt : List Int) : lcs (a :: xt) (b :: yt) = if a = b then lcs xt yt + 1 else max (lcs xt (b :: yt)) (lcs (a :: xt) yt) := by
  rw [lcs]

theorem lcs_ub (xs ys : List Int) : ∀ s : List Int, s.Sublist xs → s.Sublist ys → s.length ≤ lcs xs ys := by
  induction xs, ys using lcs.induct with
  | case1 ys => intro s h _; simp at h; subst h; simp
  | case2 a xt => intro s _ h; simp at h; subst h; simp
  | case3 xt b yt ih =>
    intro s h1 h2
    rw [lcs_cons, if_pos rfl]
    cases s with
    | nil => simp
    | cons c s =>
      have h1' : s.Sublist xt := by
        cases h1 with
        | cons _ h => exact (List.sublist_cons_self c s).trans h
        | cons_cons _ h => exact h
      have h2' : s.Sublist yt := by
        cases h2 with
        | cons _ h => exact (List.sublist_cons_self c s).trans h
        | cons_cons _ h => exact h
      have := ih s h1' h2'
      simp; omega
  | case4 a xt b yt hne ih1 ih2 =>
    intro s h1 h2
    rw [lcs_cons, if_neg hne]
    cases s with
    | nil => simp
    | cons c s =>
      by_cases hc : c = a
      · subst hc
        have h2' : (c :: s).Sublist yt := by
          cases h2 with
          | cons _ h => exact h
          | cons_cons _ h => exact absurd rfl hne
        have := ih2 _ h1 h2'
        omega
      · have h1' : (c :: s).Sublist xt := by
          cases h1 with
          | cons _ h => exact h
          | cons_cons _ h => exact absurd rfl hc
        have := ih1 _ h1' h2
        omega

theorem lcs_ex (xs ys : List Int) : ∃ s : List Int, s.Sublist xs ∧ s.Sublist ys ∧ s.length = lcs xs ys := by
  induction xs, ys using lcs.induct with
  | case1 ys => exact ⟨[], by simp⟩
  | case2 a xt => exact ⟨[], by simp⟩
  | case3 xt b yt ih =>
    obtain ⟨s, h1, h2, h3⟩ := ih
    exact ⟨b :: s, h1.cons_cons b, h2.cons_cons b, by rw [lcs_cons, if_pos rfl]; simp [h3]⟩
  | case4 a xt b yt hne ih1 ih2 =>
    rw [lcs_cons, if_neg hne]
    by_cases h : lcs (a :: xt) yt ≤ lcs xt (b :: yt)
    · obtain ⟨s, h1, h2, h3⟩ := ih1
      exact ⟨s, h1.cons a, h2, by omega⟩
    · obtain ⟨s, h1, h2, h3⟩ := ih2
      exact ⟨s, h1, h2.cons b, by omega⟩

theorem lcs_unique {xs ys : List Int} {n : Nat} (h : ∃ s : List Int, s.Sublist xs ∧ s.Sublist ys ∧ s.length = n) (h' : ∀ s : List Int, s.Sublist xs → s.Sublist ys → s.length ≤ n) : lcs xs ys = n := by
  obtain ⟨s, h1, h2, h3⟩ := h
  obtain ⟨t, h4, h5, h6⟩ := lcs_ex xs ys
  have := lcs_ub xs ys s h1 h2
  have := h' t h4 h5
  omega

theorem lcs_comm (xs ys : List Int) : lcs xs ys = lcs ys xs := by
  obtain ⟨s, h1, h2, h3⟩ := lcs_ex ys xs
  exact lcs_unique ⟨s, h2, h1, h3⟩ fun t a b => lcs_ub ys xs t b a

theorem lcs_reverse (xs ys : List Int) : lcs xs.reverse ys.reverse = lcs xs ys := by
  obtain ⟨s, h1, h2, h3⟩ := lcs_ex xs ys
  refine lcs_unique ⟨s.reverse, h1.reverse, h2.reverse, by simp [h3]⟩ fun t a b => ?_
  have := lcs_ub xs ys t.reverse (by simpa using a.reverse) (by simpa using b.reverse)
  simpa using this

theorem lcs_mono {xs xs' ys ys' : List Int} (h : xs.Sublist xs') (h' : ys.Sublist ys') : lcs xs ys ≤ lcs xs' ys' := by
  obtain ⟨s, h1, h2, h3⟩ := lcs_ex xs ys
  have := lcs_ub xs' ys' s (h1.trans h) (h2.trans h')
  omega

theorem lcs_le_left (xs ys : List Int) : lcs xs ys ≤ xs.length := by
  obtain ⟨s, h1, _, h3⟩ := lcs_ex xs ys
  have := h1.length_le
  omega
theorem lcs_le_right (xs ys : List Int) : lcs xs ys ≤ ys.length := by rw [lcs_comm]; exact lcs_le_left _ _

theorem lcs_self (xs : List Int) : lcs xs xs = xs.length := by
  have := lcs_ub xs xs xs (List.Sublist.refl _) (List.Sublist.refl _)
  have := lcs_le_left xs xs
  omega

theorem lcs_cons_same (a : Int) (xs ys : List Int) : lcs (a :: xs) (a :: ys) = lcs xs ys + 1 := by rw [lcs_cons, if_pos rfl]

theorem lcs_cons_le (a : Int) (xs ys : List Int) : lcs (a :: xs) ys ≤ lcs xs ys + 1 := by
  obtain ⟨s, h1, h2, h3⟩ := lcs_ex (a :: xs) ys
  cases s with
  | nil => simp at h3; omega
  | cons c s =>
    have h1' : s.Sublist xs := by
      cases h1 with
      | cons _ h => exact (List.sublist_cons_self c s).trans h
      | cons_cons _ h => exact h
    have := lcs_ub xs ys s h1' ((List.sublist_cons_self c s).trans h2)
    simp at h3; omega
theorem lcs_cons_le_right (b : Int) (xs ys : List Int) : lcs xs (b :: ys) ≤ lcs xs ys + 1 := by
  rw [lcs_comm, lcs_comm xs ys]; exact lcs_cons_le b ys xs

theorem lcs_snoc_same (a : Int) (xs ys : List Int) : lcs (xs ++ [a]) (ys ++ [a]) = lcs xs ys + 1 := by
  rw [← lcs_reverse, ← lcs_reverse xs ys]; simp [lcs_cons_same]
theorem lcs_snoc (a b : Int) (xs ys : List Int) : lcs (xs ++ [a]) (ys ++ [b]) = if a = b then lcs xs ys + 1 else max (lcs xs (ys ++ [b])) (lcs (xs ++ [a]) ys) := by
  rw [← lcs_reverse, ← lcs_reverse xs ys, ← lcs_reverse xs (ys ++ [b]), ← lcs_reverse (xs ++ [a]) ys]
  simp [lcs_cons]
theorem lcs_snoc_le (a : Int) (xs ys : List Int) : lcs (xs ++ [a]) ys ≤ lcs xs ys + 1 := by
  rw [← lcs_reverse, ← lcs_reverse xs ys]; simp only [List.reverse_append, List.reverse_cons, List.reverse_nil, List.nil_append, List.singleton_append]; exact lcs_cons_le _ _ _

/-- Cut both lists anywhere: never more together. -/
theorem lcs_append_ge (xs xs' ys ys' : List Int) : lcs xs ys + lcs xs' ys' ≤ lcs (xs ++ xs') (ys ++ ys') := by
  obtain ⟨s, h1, h2, h3⟩ := lcs_ex xs ys
  obtain ⟨t, h4, h5, h6⟩ := lcs_ex xs' ys'
  have := lcs_ub (xs ++ xs') (ys ++ ys') (s ++ t) (h1.append h4) (h2.append h5)
  simp at this; omega

theorem sublist_append_split {s xs ys : List Int} (h : s.Sublist (xs ++ ys)) : ∃ s1 s2, s = s1 ++ s2 ∧ s1.Sublist xs ∧ s2.Sublist ys := by
  obtain ⟨l1, l2, rfl, h1, h2⟩ := List.sublist_append_iff.1 h
  exact ⟨l1, l2, rfl, h1, h2⟩

/-- Cut the first list: somewhere in the second one both together are just xt much. -/
theorem lcs_cut (xs xs' ys : List Int) : ∃ j, j ≤ ys.length ∧ lcs (xs ++ xs') ys = lcs xs (ys.take j) + lcs xs' (ys.drop j) := by
  obtain ⟨s, h1, h2, h3⟩ := lcs_ex (xs ++ xs') ys
  obtain ⟨s1, s2, rfl, h4, h5⟩ := sublist_append_split h1
  obtain ⟨l1, l2, rfl, h6, h7⟩ := List.append_sublist_iff.1 h2
  refine ⟨l1.length, by simp, ?_⟩
  have a1 := lcs_ub xs l1 s1 h4 h6
  have a2 := lcs_ub xs' l2 s2 h5 h7
  have a3 := lcs_append_ge xs xs' l1 l2
  simp only [List.take_left, List.drop_left]
  simp at h3; omega

/-- The same ahead of both: xt much more. -/
theorem lcs_prefix (p xs ys : List Int) : lcs (p ++ xs) (p ++ ys) = p.length + lcs xs ys := by
  induction p with
  | nil => simp
  | cons a p ih => simp only [List.cons_append, lcs_cons_same, ih, List.length_cons]; omega
theorem lcs_suffix (p xs ys : List Int) : lcs (xs ++ p) (ys ++ p) = p.length + lcs xs ys := by
  rw [← lcs_reverse, ← lcs_reverse xs ys]; simp [lcs_prefix]

/-- The distance. -/
def dist (xs ys : List Int) : Nat := xs.length + ys.length - 2 * lcs xs ys
theorem dist_add (xs ys : List Int) : dist xs ys + 2 * lcs xs ys = xs.length + ys.length := by
  have := lcs_le_left xs ys
  have := lcs_le_right xs ys
  unfold dist; omega
theorem dist_comm (xs ys : List Int) : dist xs ys = dist ys xs := by
  have := dist_add xs ys
  have := dist_add ys xs
  have := lcs_comm xs ys
  omega
theorem lcs_full {xs ys : List Int} (h : lcs xs ys = xs.length) (h' : lcs xs ys = ys.length) : xs = ys := by
  obtain ⟨s, h1, h2, h3⟩ := lcs_ex xs ys
  have e1 := h1.eq_of_length (by omega)
  have e2 := h2.eq_of_length (by omega)
  rw [← e1, ← e2]
theorem dist_zero_iff (xs ys : List Int) : dist xs ys = 0 ↔ xs = ys := by
  constructor
  · intro h
    have := dist_add xs ys
    have := lcs_le_left xs ys
    have := lcs_le_right xs ys
    exact lcs_full (by omega) (by omega)
  · rintro rfl
    have := dist_add xs xs
    have := lcs_self xs
    omega

/-- Two parts of one list have at least so much in common. -/
theorem sublist_both : ∀ (z s t : List Int), s.Sublist z → t.Sublist z → ∃ u : List Int, u.Sublist s ∧ u.Sublist t ∧ s.length + t.length ≤ z.length + u.length := by
  intro z
  induction z with
  | nil => intro s t h1 h2; simp at h1 h2; subst h1; subst h2; exact ⟨[], by simp⟩
  | cons c z ih =>
    intro s t h1 h2
    cases h1 with
    | cons _ h1 =>
      cases h2 with
      | cons _ h2 => obtain ⟨u, a, b, l⟩ := ih s t h1 h2; exact ⟨u, a, b, by simp; omega⟩
      | cons_cons _ h2 => rename_i t; obtain ⟨u, a, b, l⟩ := ih s t h1 h2; exact ⟨u, a, b.cons _, by simp; omega⟩
    | cons_cons _ h1 =>
      rename_i s
      cases h2 with
      | cons _ h2 => obtain ⟨u, a, b, l⟩ := ih s t h1 h2; exact ⟨u, a.cons _, b, by simp; omega⟩
      | cons_cons _ h2 => rename_i t; obtain ⟨u, a, b, l⟩ := ih s t h1 h2; exact ⟨c :: u, a.cons_cons _, b.cons_cons _, by simp; omega⟩
theorem dist_triangle (xs zs ys : List Int) : dist xs ys ≤ dist xs zs + dist zs ys := by
  obtain ⟨s, h1, h2, h3⟩ := lcs_ex xs zs
  obtain ⟨t, h4, h5, h6⟩ := lcs_ex zs ys
  obtain ⟨u, a, b, l⟩ := sublist_both zs s t h2 h4
  have := lcs_ub xs ys u (a.trans h1) (b.trans h5)
  have := dist_add xs ys
  have := dist_add xs zs
  have := dist_add zs ys
  omega


/-! Lists told place by place. -/
def seq {α : Type} (n : Nat) (F : Nat → α) : List α := (List.range n).map F
def upd {α : Type} (F : Nat → α) (i : Nat) (v : α) : Nat → α := fun j => if j = i then v else F j
theorem upd_same {α : Type} (F : Nat → α) (i : Nat) (v : α) : upd F i v i = v := by simp [upd]
theorem upd_ne {α : Type} (F : Nat → α) {i j : Nat} (v : α) (h : j ≠ i) : upd F i v j = F j := by simp [upd, h]
theorem seq_length {α : Type} (n : Nat) (F : Nat → α) : (seq n F).length = n := by simp [seq]
theorem seq_getD {α : Type} {n : Nat} (F : Nat → α) {i : Nat} (h : i < n) (d : α) : (seq n F).getD i d = F i := by simp [seq, h, List.getD_eq_getElem?_getD]
theorem seq_getElem {α : Type} {n : Nat} (F : Nat → α) {i : Nat} (h : i < (seq n F).length) : (seq n F)[i] = F i := by simp [seq]
theorem seq_ext {α : Type} {n : Nat} {F G : Nat → α} (h : ∀ i, i < n → F i = G i) : seq n F = seq n G := by
  unfold seq; exact List.map_congr_left fun i hi => h i (List.mem_range.1 hi)
theorem seq_set {α : Type} {n : Nat} (F : Nat → α) (i : Nat) (v : α) : (seq n F).set i v = seq n (upd F i v) := by
  apply List.ext_getElem
  · simp [seq_length]
  · intro j h1 h2
    rw [List.getElem_set, seq_getElem, seq_getElem]
    unfold upd
    by_cases h : i = j
    · rw [if_pos h, if_pos h.symm]
    · rw [if_neg h, if_neg (fun e => h e.symm)]
theorem seq_const {α : Type} (n : Nat) (v : α) : List.replicate n v = seq n (fun _ => v) := by
  apply List.ext_getElem
  · simp [seq_length]
  · intro j h1 h2; simp [seq]
theorem seq_snoc {α : Type} (n : Nat) (F : Nat → α) : seq (n + 1) F = seq n F ++ [F n] := by simp [seq, List.range_succ]
theorem seq_of {α : Type} (xs : List α) (d : α) : xs = seq xs.length (fun i => xs.getD i d) := by
  apply List.ext_getElem
  · simp [seq_length]
  · intro j h1 h2; rw [seq_getElem]; simp [List.getD_eq_getElem?_getD, h1]
theorem seq_inj {α : Type} {n : Nat} {F G : Nat → α} (h : seq n F = seq n G) : ∀ i, i < n → F i = G i := by
  intro i hi
  have := congrArg (fun l => l[i]?) h
  simpa [seq, hi] using this
theorem rd_seq {n : Nat} (F : Nat → Int) {i : Int} {p : Nat} (h : p < n) (e : i = (p : Int)) : rd (seq n F) i = F p := by
  subst e; rw [rd_nat, seq_getD F h]

theorem rd_L6_seq {n : Nat} (F : Nat → List Int) {i : Int} {p : Nat} (h : p < n) (e : i = (p : Int)) : rd_L6 (seq n F) i = F p := by
  subst e; unfold rd_L6; rw [Int.toNat_natCast, seq_getD F h]

/-- What both lists have in common behind two places. -/
def T (a b : List Int) (i j : Nat) : Nat := lcs (a.drop i) (b.drop j)
theorem T_out_left {a b : List Int} {i j : Nat} (h : a.length ≤ i) : T a b i j = 0 := by unfold T; rw [List.drop_eq_nil_of_le h]; simp
theorem T_out_right {a b : List Int} {i j : Nat} (h : b.length ≤ j) : T a b i j = 0 := by unfold T; rw [List.drop_eq_nil_of_le h]; simp
theorem T_step {a b : List Int} {i j : Nat} (h : i < a.length) (h' : j < b.length) : T a b i j = if a.getD i 0 = b.getD j 0 then T a b (i + 1) (j + 1) + 1 else max (T a b (i + 1) j) (T a b i (j + 1)) := by
  unfold T; rw [drop_getD h, drop_getD h', lcs_cons]
theorem T_le_left (a b : List Int) (i j : Nat) : T a b i j ≤ a.length - i := by have := lcs_le_left (a.drop i) (b.drop j); unfold T; simpa using this
theorem T_le_right (a b : List Int) (i j : Nat) : T a b i j ≤ b.length - j := by have := lcs_le_right (a.drop i) (b.drop j); unfold T; simpa using this
theorem T_zero (a b : List Int) : T a b 0 0 = lcs a b := rfl
theorem T_down (a b : List Int) (i j : Nat) : T a b (i + 1) j ≤ T a b i j := by
  unfold T; refine lcs_mono ?_ (List.Sublist.refl _)
  rw [← List.drop_drop]; exact List.drop_sublist _ _
theorem T_right (a b : List Int) (i j : Nat) : T a b i (j + 1) ≤ T a b i j := by
  unfold T; refine lcs_mono (List.Sublist.refl _) ?_
  rw [← List.drop_drop]; exact List.drop_sublist _ _
/-- The whole table. -/
def behind (a b : List Int) : List (List Int) := seq (a.length + 1) fun i => seq (b.length + 1) fun j => (T a b i j : Int)

/-- Pairs that rise in both, from behind two places on, each of alike numbers. -/
def okPair (a b : List Int) (li lj : Int) (x : S54) : Bool := decide (0 ≤ x.f0) && decide (x.f0 < a.length) && decide (0 ≤ x.f1) && decide (x.f1 < b.length) && decide (rd a x.f0 = rd b x.f1) && decide (li < x.f0) && decide (lj < x.f1)
def good (a b : List Int) : Int → Int → List S54 → Bool
  | _, _, [] => true
  | li, lj, x :: l => okPair a b li lj x && good a b x.f0 x.f1 l
theorem okPair_iff (a b : List Int) (li lj : Int) (x : S54) : okPair a b li lj x = true ↔ 0 ≤ x.f0 ∧ x.f0 < a.length ∧ 0 ≤ x.f1 ∧ x.f1 < b.length ∧ rd a x.f0 = rd b x.f1 ∧ li < x.f0 ∧ lj < x.f1 := by
  simp [okPair, and_assoc]
theorem good_cons (a b : List Int) (li lj : Int) (x : S54) (l : List S54) : good a b li lj (x :: l) = true ↔ okPair a b li lj x = true ∧ good a b x.f0 x.f1 l = true := by simp [good]
theorem good_weaken {a b : List Int} {li lj li' lj' : Int} (hi : li' ≤ li) (hj : lj' ≤ lj) : ∀ {l : List S54}, good a b li lj l = true → good a b li' lj' l = true
  | [], _ => rfl
  | x :: l, h => by
    rw [good_cons, okPair_iff] at h ⊢
    obtain ⟨⟨h1, h2, h3, h4, h5, h6, h7⟩, h8⟩ := h
    exact ⟨⟨h1, h2, h3, h4, h5, by omega, by omega⟩, h8⟩
/-- A good list is no longer than what both have in common behind. -/
theorem good_len {a b : List Int} : ∀ (l : List S54) (i j : Nat), good a b ((i : Int) - 1) ((j : Int) - 1) l = true → l.length ≤ T a b i j
  | [], i, j, _ => Nat.zero_le _
  | x :: l, i, j, h => by
    rw [good_cons, okPair_iff] at h
    obtain ⟨⟨h1, h2, h3, h4, h5, h6, h7⟩, h8⟩ := h
    obtain ⟨p, hp⟩ := Int.eq_ofNat_of_zero_le h1
    obtain ⟨q, hq⟩ := Int.eq_ofNat_of_zero_le h3
    have ih := good_len l (p + 1) (q + 1) (by rw [hp, hq] at h8; simpa using h8)
    rw [hp, hq, rd_nat, rd_nat] at h5
    have hs := T_step (a := a) (b := b) (i := p) (j := q) (by omega) (by omega)
    rw [if_pos h5] at hs
    have e1 : T a b p q ≤ T a b i q := by
      unfold T; refine lcs_mono ?_ (List.Sublist.refl _)
      rw [show p = i + (p - i) by omega, ← List.drop_drop]; exact List.drop_sublist _ _
    have e2 : T a b i q ≤ T a b i j := by
      unfold T; refine lcs_mono (List.Sublist.refl _) ?_
      rw [show q = j + (q - j) by omega, ← List.drop_drop]; exact List.drop_sublist _ _
    simp only [List.length_cons]; omega
def prevI (l : List S54) (p : Nat) : Int := if p = 0 then -1 else (l.getD (p - 1) z54).f0
def prevJ (l : List S54) (p : Nat) : Int := if p = 0 then -1 else (l.getD (p - 1) z54).f1
theorem drop_getD_pair {xs : List S54} {i : Nat} (h : i < xs.length) : xs.drop i = xs.getD i z54 :: xs.drop (i + 1) := by
  rw [List.drop_eq_getElem_cons h]; simp [List.getD_eq_getElem?_getD, h]

theorem tattingref7_Good_l0 (a b : List Int) (l : List S54) (ha : a.length ≤ 1000000) (hb : b.length ≤ 1000000) (hl : l.length ≤ 1000000) : ∀ (d k p : Nat), p + d = l.length → 2 * d < k →
    tattingref7_Good.l0 k a b l p = some (good a b (prevI l p) (prevJ l p) (l.drop p)) := by
  intro d
  induction d with
  | zero =>
    intro k p hp hk
    obtain ⟨k, rfl⟩ : ∃ m, k = m + 1 := ⟨k - 1, by omega⟩
    rw [tattingref7_Good.l0, if_neg (by omega), List.drop_eq_nil_of_le (by omega)]
    rfl
  | succ d ih =>
    intro k p hp hk
    obtain ⟨k, rfl⟩ : ∃ m, k = m + 1 + 1 := ⟨k - 2, by omega⟩
    have e1 : rd_T54 l (p : Int) = l.getD p z54 := rfl
    have h4 := ih k (p + 1) (by omega) (by omega)
    rw [drop_getD_pair (show p < l.length by omega)]
    have pi1 : prevI l (p + 1) = (l.getD p z54).f0 := by simp [prevI]
    have pj1 : prevJ l (p + 1) = (l.getD p z54).f1 := by simp [prevJ]
    rw [pi1, pj1] at h4
    have e2 : p ≠ 0 → rd_T54 l ((p : Int) - 1) = l.getD (p - 1) z54 := fun h => by
      unfold rd_T54; congr 1; omega
    have pi0 : p ≠ 0 → prevI l p = (l.getD (p - 1) z54).f0 := fun h => by simp [prevI, h]
    have pj0 : p ≠ 0 → prevJ l p = (l.getD (p - 1) z54).f1 := fun h => by simp [prevJ, h]
    have pi2 : p = 0 → prevI l p = -1 := fun h => by simp [prevI, h]
    have pj2 : p = 0 → prevJ l p = -1 := fun h => by simp [prevJ, h]
    generalize l.getD p z54 = x at *
    generalize l.getD (p - 1) z54 = y at *
    simp only [Int.natCast_add, Int.cast_ofNat_Int] at h4
    rw [tattingref7_Good.l0, if_pos (by omega), if_pos (by omega), e1]
    by_cases c1 : x.f0 < 0
    · rw [if_pos c1, tattingref7_Good.j1, itt]
      symm; congr 1; rw [← Bool.not_eq_true, good_cons, okPair_iff]; omega
    rw [if_neg c1]
    by_cases c2 : x.f0 ≥ a.length
    · rw [if_pos c2, tattingref7_Good.j1, itt]
      symm; congr 1; rw [← Bool.not_eq_true, good_cons, okPair_iff]; omega
    rw [if_neg c2]
    by_cases c3 : x.f1 < 0
    · rw [if_pos c3, tattingref7_Good.j1, itt]
      symm; congr 1; rw [← Bool.not_eq_true, good_cons, okPair_iff]; omega
    rw [if_neg c3]
    by_cases c4 : x.f1 ≥ b.length
    · rw [if_pos c4, tattingref7_Good.j1, itt]
      symm; congr 1; rw [← Bool.not_eq_true, good_cons, okPair_iff]; omega
    rw [if_neg c4, if_pos (by omega), if_pos (by omega), if_pos (by omega), if_pos (by omega), tattingref7_Good.j1]
    by_cases c5 : rd a x.f0 = rd b x.f1
    · rw [bne_eq_false_iff_eq.2 c5, ift, wr (by omega) (by omega), wr (by omega) (by omega)]
      by_cases c6 : p = 0
      · rw [if_neg (by omega), h4]
        congr 1
        rw [pi2 c6, pj2 c6, Bool.eq_iff_iff, good_cons, okPair_iff]
        exact ⟨fun h => ⟨⟨by omega, by omega, by omega, by omega, c5, by omega, by omega⟩, h⟩, fun h => h.2⟩
      · rw [if_pos (by omega), if_pos (by omega), if_pos (by omega), e2 c6, pi0 c6, pj0 c6]
        by_cases c7 : x.f0 ≤ y.f0
        · rw [if_pos c7]
          symm; congr 1; rw [← Bool.not_eq_true, good_cons, okPair_iff]; omega
        rw [if_neg c7]
        by_cases c8 : x.f1 ≤ y.f1
        · rw [if_pos c8]
          symm; congr 1; rw [← Bool.not_eq_true, good_cons, okPair_iff]; omega
        rw [if_neg c8, h4]
        congr 1
        rw [Bool.eq_iff_iff, good_cons, okPair_iff]
        exact ⟨fun h => ⟨⟨by omega, by omega, by omega, by omega, c5, by omega, by omega⟩, h⟩, fun h => h.2⟩
    · rw [bne_iff_ne.2 c5, itt]
      symm; congr 1; rw [← Bool.not_eq_true, good_cons, okPair_iff]; exact fun h => c5 h.1.2.2.2.2.1
theorem tattingref7_Good_eq (a b : List Int) (l : List S54) (ha : a.length ≤ 1000000) (hb : b.length ≤ 1000000) (hl : l.length ≤ 1000000) (k : Nat) (hk : 2 * l.length < k) :
    tattingref7_Good.f k a b l = some (good a b (-1) (-1) l) :=
  tattingref7_Good_l0 a b l ha hb hl l.length k 0 (by omega) hk

def trow (a b : List Int) (p : Nat) : List Int := seq (b.length + 1) fun q => (T a b p q : Int)
theorem tattingref7_Behind_l1 (a b : List Int) (ha : a.length ≤ 100000) (hb : b.length ≤ 100000) (r : List (List Int)) (i : Nat) (hi : i < a.length) (F : Nat → List Int) (hF : ∀ p, i < p → p ≤ a.length → F p = trow a b p)
    (hr : ∀ G : Nat → List Int, (∀ p, i ≤ p → p ≤ a.length → G p = trow a b p) → Ev (fun k => tattingref7_Behind.l0 k a b (seq (a.length + 1) G) ((i : Int) - 1)) r) : ∀ (j : Nat) (g : Nat → Int), j ≤ b.length → (∀ q, j ≤ q → q ≤ b.length → g q = T a b i q) →
    Ev (fun k => tattingref7_Behind.l1 k a b (seq (a.length + 1) (upd F i (seq (b.length + 1) g))) i ((j : Int) - 1)) r := by
  intro j
  induction j with
  | zero =>
    intro g hj h2
    refine Ev.step (f := fun k => tattingref7_Behind.j2 k a b (seq (a.length + 1) (upd F i (seq (b.length + 1) g))) i (((0 : Nat) : Int) - 1) false) (fun k => ?_) ?_
    · have e : decide ((((0 : Nat) : Int) - 1) ≥ 0) = false := decide_eq_false (by omega)
      rw [tattingref7_Behind.l1, if_pos (by omega), e]
    · refine Ev.step (fun k => ?_) (hr (upd F i (seq (b.length + 1) g)) (fun p hp hp' => ?_))
      · rw [tattingref7_Behind.j2, ift, wr (by omega) (by omega)]
      · by_cases h : p = i
        · subst h; rw [upd_same]; exact seq_ext fun q hq => h2 q (by omega) (by omega)
        · rw [upd_ne _ _ h]; exact hF p (by omega) hp'
  | succ j ih =>
    intro g hj h2
    refine Ev.step (f := fun k => tattingref7_Behind.j2 k a b (seq (a.length + 1) (upd F i (seq (b.length + 1) g))) i (((j + 1 : Nat) : Int) - 1) true) (fun k => ?_) ?_
    · have e : decide ((((j + 1 : Nat) : Int) - 1) ≥ 0) = true := decide_eq_true (by omega)
      rw [tattingref7_Behind.l1, if_pos (by omega), e]
    have hF1 := hF (i + 1) (by omega) (by omega)
    have hu : upd F i (seq (b.length + 1) g) (i + 1) = trow a b (i + 1) := by rw [upd_ne _ _ (by omega)]; exact hF1
    have l0 := seq_length (a.length + 1) (upd F i (seq (b.length + 1) g))
    have l1 := seq_length (b.length + 1) g
    have l2 : (trow a b (i + 1)).length = b.length + 1 := seq_length _ _
    have e1 : rd a (i : Int) = a.getD i 0 := rfl
    have e2 : rd b ((((j + 1 : Nat) : Int)) - 1) = b.getD j 0 := rd_at (by omega)
    have e3 := rd_L6_seq (n := a.length + 1) (upd F i (seq (b.length + 1) g)) (i := (i : Int)) (p := i) (by omega) rfl
    rw [upd_same] at e3
    have e4 := rd_L6_seq (n := a.length + 1) (upd F i (seq (b.length + 1) g)) (i := (i : Int) + 1) (p := i + 1) (by omega) (by omega)
    rw [hu] at e4
    have e5 : rd (trow a b (i + 1)) ((((j + 1 : Nat) : Int)) - 1 + 1) = T a b (i + 1) (j + 1) := rd_seq (n := b.length + 1) (fun q => (T a b (i + 1) q : Int)) (p := j + 1) (by omega) (by omega)
    have e6 : rd (trow a b (i + 1)) ((((j + 1 : Nat) : Int)) - 1) = T a b (i + 1) j := rd_seq (n := b.length + 1) (fun q => (T a b (i + 1) q : Int)) (p := j) (by omega) (by omega)
    have e7 := rd_seq (n := b.length + 1) g (i := (((j + 1 : Nat) : Int)) - 1 + 1) (p := j + 1) (by omega) (by omega)
    have hs := T_step (a := a) (b := b) (i := i) (j := j) hi (by omega)
    have t1 := T_le_left a b (i + 1) (j + 1)
    have v3 := h2 (j + 1) (by omega) (by omega)
    have key : ∀ v : Int, v = T a b i j → Ev (fun k => tattingref7_Behind.l1 k a b ((seq (a.length + 1) (upd F i (seq (b.length + 1) g))).set (i : Int).toNat ((seq (b.length + 1) g).set ((((j + 1 : Nat) : Int)) - 1).toNat v)) i ((((j + 1 : Nat) : Int)) - 1 - 1)) r := by
      intro v hv
      rw [show ((((j + 1 : Nat) : Int)) - 1).toNat = j by omega, show ((((j + 1 : Nat) : Int)) - 1 - 1) = (j : Int) - 1 by omega, Int.toNat_natCast, seq_set, seq_set]
      have hg := ih (upd g j v) (by omega) (fun q hq hq' => by
        by_cases h : q = j
        · subst h; rw [upd_same, hv]
        · rw [upd_ne _ _ h]; exact h2 q (by omega) hq')
      have e : upd (upd F i (seq (b.length + 1) g)) i (seq (b.length + 1) (upd g j v)) = upd F i (seq (b.length + 1) (upd g j v)) := by
        funext p
        by_cases h : p = i
        · subst h; rw [upd_same, upd_same]
        · rw [upd_ne _ _ h, upd_ne _ _ h, upd_ne _ _ h]
      rw [e]; exact hg
    by_cases hab : a.getD i 0 = b.getD j 0
    · refine Ev.step (fun k => ?_) (key (T a b (i + 1) (j + 1) + 1) ?_)
      · simp (disch := omega) only [tattingref7_Behind.j2, itt, ifT, wr, if_pos, e1, e2, e3, e4, e5, l0, l1, l2, if_pos hab]
      · rw [hs, if_pos hab]; simp
    · refine Ev.step (fun k => ?_) (key (mx (T a b (i + 1) j) (g (j + 1))) ?_)
      · simp (disch := omega) only [tattingref7_Behind.j2, itt, ifT, wr, if_pos, e1, e2, e3, e4, e6, e7, l0, l1, l2]
        simp (disch := omega) only [if_neg hab, if_pos, wr]
      · rw [hs, if_neg hab, v3]; unfold mx; omega
theorem tattingref7_Behind_l0 (a b : List Int) (ha : a.length ≤ 100000) (hb : b.length ≤ 100000) : ∀ (i : Nat) (F : Nat → List Int), i ≤ a.length →
    (∀ p, i ≤ p → p ≤ a.length → F p = trow a b p) → Ev (fun k => tattingref7_Behind.l0 k a b (seq (a.length + 1) F) ((i : Int) - 1)) (behind a b) := by
  intro i
  induction i with
  | zero =>
    intro F hi h1
    refine Ev.step (f := fun _ => some _) (fun k => ?_) (Ev.now _)
    simp (disch := omega) only [tattingref7_Behind.l0, if_neg]
    congr 1
    exact seq_ext fun p hp => h1 p (by omega) (by omega)
  | succ i ih =>
    intro F hi h1
    refine Ev.step (fun k => ?_) (tattingref7_Behind_l1 a b ha hb (behind a b) i (by omega) F (fun p hp hp' => h1 p (by omega) hp') (fun G hG => ih G (by omega) hG) b.length (fun _ => 0) (by omega) (fun q hq hq' => ?_))
    · have l0 := seq_length (a.length + 1) F
      have e : ((b.length : Int) + 1).toNat = b.length + 1 := by omega
      simp (disch := omega) only [tattingref7_Behind.l0, wr, if_pos, e, l0, seq_const, seq_set]
      rw [show ((((i + 1 : Nat) : Int)) - 1) = (i : Int) by omega, Int.toNat_natCast]
    · rw [T_out_right (by omega)]; rfl
theorem tattingref7_Behind_eq (a b : List Int) (ha : a.length ≤ 100000) (hb : b.length ≤ 100000) : Ev (fun k => tattingref7_Behind.f k a b) (behind a b) := by
  have hrow : (seq (b.length + 1) fun _ => (0 : Int)) = trow a b a.length := seq_ext fun q hq => by rw [T_out_left (by omega)]; rfl
  have h0 := tattingref7_Behind_l0 a b ha hb a.length (upd (fun _ => []) a.length (seq (b.length + 1) fun _ => 0)) (by omega) (fun p hp hp' => by
    obtain rfl : p = a.length := by omega
    rw [upd_same, hrow])
  have h1 : Ev (fun k => tattingref7_Behind.l1 k a b (seq (a.length + 1) (upd (fun _ => []) a.length (seq (b.length + 1) fun _ => 0))) a.length ((b.length : Int) - 1)) (behind a b) := by
    refine Ev.step (f := fun k => tattingref7_Behind.j2 k a b (seq (a.length + 1) (upd (fun _ => []) a.length (seq (b.length + 1) fun _ => 0))) a.length ((b.length : Int) - 1) false) (fun k => ?_) (Ev.step (fun k => ?_) h0)
    · rw [tattingref7_Behind.l1, if_neg (by omega)]
    · rw [tattingref7_Behind.j2, ift, wr (by omega) (by omega)]
  have h2 : Ev (fun k => tattingref7_Behind.l0 k a b (seq (a.length + 1) (fun _ => [])) a.length) (behind a b) := by
    refine Ev.step (fun k => ?_) h1
    have l0 := seq_length (a.length + 1) (fun _ => ([] : List Int))
    have e : ((b.length : Int) + 1).toNat = b.length + 1 := by omega
    simp (disch := omega) only [tattingref7_Behind.l0, wr, if_pos, e, l0, seq_const, seq_set]
    rw [Int.toNat_natCast]
  refine Ev.congr (fun k => ?_) h2
  have e : ((a.length : Int) + 1).toNat = a.length + 1 := by omega
  unfold tattingref7_Behind.f
  simp (disch := omega) only [wr, if_pos, e, seq_const]

/-- A pair behind which there is just one less. -/
def hit (a b : List Int) (want : Nat) (x y : Nat) : Prop := x < a.length ∧ y < b.length ∧ a.getD x 0 = b.getD y 0 ∧ T a b (x + 1) (y + 1) + 1 = want
/-- The first such pair from two places on. -/
def isFirst (a b : List Int) (want i j x y : Nat) : Prop := i ≤ x ∧ j ≤ y ∧ hit a b want x y ∧ ∀ x' y', i ≤ x' → j ≤ y' → (x' < x ∨ (x' = x ∧ y' < y)) → ¬ hit a b want x' y'
/-- The list of first pairs. -/
def isLeast (a b : List Int) : Nat → Nat → List S54 → Prop
  | i, j, [] => T a b i j = 0
  | i, j, p :: l => ∃ x y : Nat, p = ⟨x, y⟩ ∧ isFirst a b (T a b i j) i j x y ∧ isLeast a b (x + 1) (y + 1) l
theorem T_mono (a b : List Int) {i j x y : Nat} (hx : i ≤ x) (hy : j ≤ y) : T a b x y ≤ T a b i j := by
  unfold T; refine lcs_mono ?_ ?_
  · rw [show x = i + (x - i) by omega, ← List.drop_drop]; exact List.drop_sublist _ _
  · rw [show y = j + (y - j) by omega, ← List.drop_drop]; exact List.drop_sublist _ _
theorem T_pair {a b : List Int} {x y : Nat} (hx : x < a.length) (hy : y < b.length) (e : a.getD x 0 = b.getD y 0) : T a b x y = T a b (x + 1) (y + 1) + 1 := by
  rw [T_step hx hy, if_pos e]
theorem hit_some (a b : List Int) : ∀ (d i j : Nat), (a.length - i) + (b.length - j) = d → T a b i j ≠ 0 → ∃ x y, i ≤ x ∧ j ≤ y ∧ hit a b (T a b i j) x y := by
  intro d
  induction d using Nat.strongRecOn with
  | ind d ih =>
    intro i j hd h0
    by_cases hi : i < a.length
    · by_cases hj : j < b.length
      · by_cases e : a.getD i 0 = b.getD j 0
        · exact ⟨i, j, Nat.le_refl _, Nat.le_refl _, hi, hj, e, (T_pair hi hj e).symm⟩
        · have hs := T_step hi hj
          rw [if_neg e] at hs
          by_cases hle : T a b (i + 1) j ≤ T a b i (j + 1)
          · have e2 : T a b i j = T a b i (j + 1) := by omega
            obtain ⟨x, y, h1, h2, h3⟩ := ih _ (by omega) i (j + 1) rfl (by omega)
            exact ⟨x, y, h1, by omega, by rw [e2]; exact h3⟩
          · have e2 : T a b i j = T a b (i + 1) j := by omega
            obtain ⟨x, y, h1, h2, h3⟩ := ih _ (by omega) (i + 1) j rfl (by omega)
            exact ⟨x, y, by omega, h2, by rw [e2]; exact h3⟩
      · exact absurd (T_out_right (by omega)) h0
    · exact absurd (T_out_left (by omega)) h0
/-- Of what holds somewhere there is a first place. -/
theorem first_nat {P : Nat → Prop} : ∀ n, P n → ∃ m, P m ∧ ∀ k, k < m → ¬ P k := by
  intro n
  induction n using Nat.strongRecOn with
  | ind n ih =>
    intro h
    by_cases c : ∃ k, k < n ∧ P k
    · obtain ⟨k, hk, hp⟩ := c
      exact ih k hk hp
    · exact ⟨n, h, fun k hk hp => c ⟨k, hk, hp⟩⟩
theorem isFirst_ex (a b : List Int) (i j : Nat) (h : T a b i j ≠ 0) : ∃ x y, isFirst a b (T a b i j) i j x y := by
  obtain ⟨x0, y0, h1, h2, h3⟩ := hit_some a b _ i j rfl h
  obtain ⟨x, ⟨hx, y1, hy1, hh⟩, hmin⟩ := first_nat (P := fun x => i ≤ x ∧ ∃ y, j ≤ y ∧ hit a b (T a b i j) x y) x0 ⟨h1, y0, h2, h3⟩
  obtain ⟨y, ⟨hy, hh'⟩, hmin'⟩ := first_nat (P := fun y => j ≤ y ∧ hit a b (T a b i j) x y) y1 ⟨hy1, hh⟩
  refine ⟨x, y, hx, hy, hh', fun x' y' h4 h5 h6 h7 => ?_⟩
  rcases h6 with h6 | ⟨rfl, h6⟩
  · exact hmin x' h6 ⟨h4, y', h5, h7⟩
  · exact hmin' y' h6 ⟨h5, h7⟩
theorem isLeast_ex (a b : List Int) : ∀ (n i j : Nat), T a b i j = n → ∃ l : List S54, isLeast a b i j l := by
  intro n
  induction n with
  | zero => intro i j h; exact ⟨[], h⟩
  | succ n ih =>
    intro i j h
    obtain ⟨x, y, hf⟩ := isFirst_ex a b i j (by omega)
    obtain ⟨l, hl⟩ := ih (x + 1) (y + 1) (by have := hf.2.2.1.2.2.2; omega)
    exact ⟨⟨x, y⟩ :: l, x, y, rfl, hf, hl⟩
theorem isLeast_len {a b : List Int} : ∀ {l : List S54} {i j : Nat}, isLeast a b i j l → l.length = T a b i j
  | [], _, _, h => h.symm
  | p :: l, i, j, ⟨x, y, _, hf, hl⟩ => by have := isLeast_len hl; have := hf.2.2.1.2.2.2; simp; omega
theorem isLeast_good {a b : List Int} : ∀ {l : List S54} {i j : Nat}, isLeast a b i j l → good a b ((i : Int) - 1) ((j : Int) - 1) l = true
  | [], _, _, _ => rfl
  | p :: l, i, j, ⟨x, y, hp, hf, hl⟩ => by
    subst hp
    obtain ⟨h1, h2, ⟨h3, h4, h5, h6⟩, _⟩ := hf
    rw [good_cons, okPair_iff]
    refine ⟨⟨by simp, by simpa using h3, by simp, by simpa using h4, by simpa [rd_nat] using h5, by simp; omega, by simp; omega⟩, ?_⟩
    have := isLeast_good hl
    simpa using this
theorem isFirst_same {a b : List Int} {w i j x y x' y' : Nat} (h : isFirst a b w i j x y) (h' : isFirst a b w i j x' y') : x = x' ∧ y = y' := by
  obtain ⟨h1, h2, h3, h4⟩ := h
  obtain ⟨g1, g2, g3, g4⟩ := h'
  have c1 := h4 x' y' g1 g2
  have c2 := g4 x y h1 h2
  by_cases e1 : x' < x
  · exact absurd g3 (c1 (.inl e1))
  · by_cases e2 : x < x'
    · exact absurd h3 (c2 (.inl e2))
    · obtain rfl : x = x' := by omega
      by_cases e3 : y' < y
      · exact absurd g3 (c1 (.inr ⟨rfl, e3⟩))
      · by_cases e4 : y < y'
        · exact absurd h3 (c2 (.inr ⟨rfl, e4⟩))
        · exact ⟨rfl, by omega⟩
theorem isLeast_same {a b : List Int} : ∀ {l l' : List S54} {i j : Nat}, isLeast a b i j l → isLeast a b i j l' → l = l'
  | [], [], _, _, _, _ => rfl
  | [], p :: l', i, j, h, ⟨x, y, _, hf, _⟩ => by have := hf.2.2.1.2.2.2; have h : T a b i j = 0 := h; omega
  | p :: l, [], i, j, ⟨x, y, _, hf, _⟩, h => by have := hf.2.2.1.2.2.2; have h : T a b i j = 0 := h; omega
  | p :: l, p' :: l', i, j, ⟨x, y, hp, hf, hl⟩, ⟨x', y', hp', hf', hl'⟩ => by
    obtain ⟨rfl, rfl⟩ := isFirst_same hf hf'
    rw [hp, hp', isLeast_same hl hl']

theorem tattingref7_first_l (a b : List Int) (ha : a.length ≤ 100000) (hb : b.length ≤ 100000) (w i j x y : Nat) (hw : w ≤ 100000) (hf : isFirst a b w i j x y) : ∀ (d p q : Nat), (x - p) * (b.length + 2) + (b.length + 1 - q) = d → i ≤ p → j ≤ q → (p < x ∨ (p = x ∧ q ≤ y)) → q ≤ b.length →
    Ev (fun k => tattingref7_first.l1 k a b (behind a b) j w p q) ((x : Int), (y : Int)) := by
  obtain ⟨hx, hy, ⟨hx', hy', he, hT⟩, hmin⟩ := hf
  intro d
  induction d using Nat.strongRecOn with
  | ind d ih =>
    intro p q hd hp hq hpq hqb
    have l0 : (behind a b).length = a.length + 1 := seq_length _ _
    by_cases hend : q < b.length
    · have e1 : rd a (p : Int) = a.getD p 0 := rfl
      have e2 : rd b (q : Int) = b.getD q 0 := rfl
      have e3 : rd_L6 (behind a b) ((p : Int) + 1) = seq (b.length + 1) fun r => (T a b (p + 1) r : Int) := rd_L6_seq _ (p := p + 1) (by omega) (by omega)
      have l1 : (seq (b.length + 1) fun r => (T a b (p + 1) r : Int)).length = b.length + 1 := seq_length _ _
      have e4 := rd_seq (n := b.length + 1) (fun r => (T a b (p + 1) r : Int)) (i := (q : Int) + 1) (p := q + 1) (by omega) (by omega)
      have t1 := T_le_left a b (p + 1) (q + 1)
      by_cases hhere : p = x ∧ q = y
      · obtain ⟨rfl, rfl⟩ := hhere
        refine Ev.step (f := fun _ => some _) (fun k => ?_) (Ev.now _)
        simp (disch := omega) only [tattingref7_first.l1, if_pos, wr, e1, e2, e3, e4, l0, l1, if_pos he]
      · have hno := hmin p q hp hq (by omega)
        have hnext : Ev (fun k => tattingref7_first.l1 k a b (behind a b) j w p ((q : Int) + 1)) ((x : Int), (y : Int)) := by
          have := ih _ (by rw [← hd]; omega) p (q + 1) rfl hp (by omega) (by omega) (by omega)
          simpa using this
        by_cases hab : a.getD p 0 = b.getD q 0
        · have hne : ¬ (((T a b (p + 1) (q + 1) : Nat) : Int) = (w : Int) - 1) := fun h => hno ⟨by omega, hend, hab, by omega⟩
          refine Ev.step (fun k => ?_) hnext
          simp (disch := omega) only [tattingref7_first.l1, if_pos, wr, e1, e2, e3, e4, l0, l1, if_pos hab, if_neg hne]
        · refine Ev.step (fun k => ?_) hnext
          simp (disch := omega) only [tattingref7_first.l1, if_pos, wr, e1, e2, if_neg hab]
    · -- the next row
      have hpx : p < x := by omega
      have hm : (x - p) * (b.length + 2) = (x - (p + 1)) * (b.length + 2) + (b.length + 2) := by
        rw [show x - p = (x - (p + 1)) + 1 by omega, Nat.succ_mul]
      have hnext := ih ((x - (p + 1)) * (b.length + 2) + (b.length + 1 - j)) (by omega) (p + 1) j rfl (by omega) (Nat.le_refl _) (by omega) (by omega)
      refine Ev.step (f := fun k => tattingref7_first.l0 k a b (behind a b) j w ((p : Int) + 1)) (fun k => ?_) (Ev.step (fun k => ?_) hnext)
      · rw [tattingref7_first.l1, if_neg (by omega), wr (by omega) (by omega)]
      · rw [tattingref7_first.l0, if_pos (by omega)]
        simp
theorem tattingref7_first_some (a b : List Int) (ha : a.length ≤ 100000) (hb : b.length ≤ 100000) (i j x y : Nat) (hi : i ≤ a.length) (hj : j ≤ b.length) (hf : isFirst a b (T a b i j) i j x y) : Ev (fun k => tattingref7_first.f k a b (behind a b) i j (T a b i j : Nat)) ((x : Int), (y : Int)) := by
  have t1 := T_le_left a b i j
  have hx := hf.2.2.1.1
  have := tattingref7_first_l a b ha hb (T a b i j) i j x y (by omega) hf _ i j rfl (Nat.le_refl _) (Nat.le_refl _) (by have := hf.1; have := hf.2.1; omega) hj
  refine Ev.step (fun k => ?_) this
  unfold tattingref7_first.f
  rw [tattingref7_first.l0, if_pos (by have := hf.1; omega)]
theorem tattingref7_Least_l0 (a b : List Int) (ha : a.length ≤ 100000) (hb : b.length ≤ 100000) : ∀ (l : List S54) (i j : Nat) (acc : List S54), i ≤ a.length → j ≤ b.length → acc.length ≤ i → isLeast a b i j l →
    Ev (fun k => tattingref7_Least.l0 k a b (behind a b) acc i j (T a b i j : Nat)) (acc ++ l)
  | [], i, j, acc, hi, hj, hacc, h => by
    have h : T a b i j = 0 := h
    refine Ev.step (f := fun _ => some _) (fun k => ?_) (Ev.now _)
    rw [tattingref7_Least.l0, if_neg (by omega), List.append_nil]
  | p :: l, i, j, acc, hi, hj, hacc, ⟨x, y, hp, hf, hl⟩ => by
    subst hp
    have hx := hf.2.2.1.1
    have hy := hf.2.2.1.2.1
    have hT := hf.2.2.1.2.2.2
    have t1 := T_le_left a b i j
    have ih := tattingref7_Least_l0 a b ha hb l (x + 1) (y + 1) (acc ++ [⟨x, y⟩]) (by omega) (by omega) (by simp; have := hf.1; omega) hl
    have hn := tattingref7_first_some a b ha hb i j x y hi hj hf
    rw [List.append_assoc, List.singleton_append] at ih
    refine Ev.step (f := fun k => (tattingref7_first.f k a b (behind a b) i j (T a b i j : Nat)).bind fun bt => if acc.length < 8796093022208 then tattingref7_Least.l0 k a b (behind a b) (acc ++ [⟨bt.1, bt.2⟩]) (wrap64 (bt.1 + 1)) (wrap64 (bt.2 + 1)) (wrap64 (((T a b i j : Nat) : Int) - 1)) else none) (fun k => ?_) (Ev.bind hn ?_)
    · rw [tattingref7_Least.l0, if_pos (by omega)]
    · refine Ev.congr (fun k => ?_) ih
      rw [if_pos (by omega), wr (x := (x : Int) + 1) (by omega) (by omega), wr (x := (y : Int) + 1) (by omega) (by omega), wr (x := ((T a b i j : Nat) : Int) - 1) (by omega) (by omega), show ((T a b i j : Nat) : Int) - 1 = ((T a b (x + 1) (y + 1) : Nat) : Int) by omega]
      simp
theorem tattingref7_Least_eq (a b : List Int) (ha : a.length ≤ 100000) (hb : b.length ≤ 100000) (l : List S54) (h : isLeast a b 0 0 l) : Ev (fun k => tattingref7_Least.f k a b) l := by
  unfold tattingref7_Least.f
  refine Ev.bind (tattingref7_Behind_eq a b ha hb) ?_
  have l0 : (behind a b).length = a.length + 1 := seq_length _ _
  have e3 : rd_L6 (behind a b) 0 = seq (b.length + 1) fun r => (T a b 0 r : Int) := rd_L6_seq _ (p := 0) (by omega) rfl
  have l1 : (seq (b.length + 1) fun r => (T a b 0 r : Int)).length = b.length + 1 := seq_length _ _
  have e4 := rd_seq (n := b.length + 1) (fun r => (T a b 0 r : Int)) (i := 0) (p := 0) (by omega) rfl
  have := tattingref7_Least_l0 a b ha hb l 0 0 [] (by omega) (by omega) (by simp) h
  refine Ev.congr (fun k => ?_) this
  simp (disch := omega) only [if_pos, e3, e4, l0, l1]
  rfl

def tokNE (l : List (List Int)) : Bool := l.all fun t => decide (t.length ≠ 0)
def hGood (h : S28) : Bool := decide (h.f1.length + h.f2.length ≠ 0) && (tokNE h.f1 && tokNE h.f2)
def goodFrom : Int → List S28 → Bool
  | _, [] => true
  | e, h :: s => decide (e < h.f0) && (decide (h.f0 ≤ 1048576) && (hGood h && goodFrom (h.f0 + h.f1.length) s))
def fewB (l : List (List Int)) : Bool := decide (l.length ≤ 30) && l.all fun t => decide (t.length ≤ 30)
def smallB (s : List S28) : Bool := decide (s.length ≤ 40) && s.all fun h => fewB h.f1 && fewB h.f2
theorem drop_tok {l : List (List Int)} {j : Nat} (h : j < l.length) : l.drop j = l.getD j [] :: l.drop (j + 1) := by
  rw [List.drop_eq_getElem_cons h]; simp [List.getD_eq_getElem?_getD, h]
theorem drop_hunk {s : List S28} {j : Nat} (h : j < s.length) : s.drop j = s.getD j z28 :: s.drop (j + 1) := by
  rw [List.drop_eq_getElem_cons h]; simp [List.getD_eq_getElem?_getD, h]
theorem rd_tok (l : List (List Int)) (j : Nat) : rd_L1 l (j : Int) = l.getD j [] := rfl
theorem rd_hunk (s : List S28) (j : Nat) : rd_T28 s (j : Int) = s.getD j z28 := rfl
theorem fewB_len {l : List (List Int)} (h : fewB l = true) : l.length ≤ 30 := by
  unfold fewB at h; rw [Bool.and_eq_true] at h; exact of_decide_eq_true h.1
theorem fewB_tok {l : List (List Int)} (h : fewB l = true) : ∀ t ∈ l, t.length ≤ 30 := by
  unfold fewB at h; rw [Bool.and_eq_true] at h
  intro t ht
  exact of_decide_eq_true (List.all_eq_true.1 h.2 t ht)
theorem smallB_len {s : List S28} (h : smallB s = true) : s.length ≤ 40 := by
  unfold smallB at h; rw [Bool.and_eq_true] at h; exact of_decide_eq_true h.1
theorem smallB_at {s : List S28} (h : smallB s = true) : ∀ x ∈ s, fewB x.f1 = true ∧ fewB x.f2 = true := by
  unfold smallB at h; rw [Bool.and_eq_true] at h
  intro x hx
  have := List.all_eq_true.1 h.2 x hx
  rwa [Bool.and_eq_true] at this
theorem few_l0 (l : List (List Int)) (hl : l.length ≤ 30) : ∀ (d k p : Nat), p + d = l.length → d < k → tattinglaw25_few.l0 k l p = some ((l.drop p).all fun t => decide (t.length ≤ 30)) := by
  intro d
  induction d with
  | zero =>
    intro k p hp hk
    obtain ⟨k, rfl⟩ : ∃ m, k = m + 1 := ⟨k - 1, by omega⟩
    rw [tattinglaw25_few.l0, if_neg (by omega), List.drop_eq_nil_of_le (by omega)]; rfl
  | succ d ih =>
    intro k p hp hk
    obtain ⟨k, rfl⟩ : ∃ m, k = m + 1 := ⟨k - 1, by omega⟩
    have h4 := ih k (p + 1) (by omega) (by omega)
    simp only [Int.natCast_add, Int.cast_ofNat_Int] at h4
    rw [tattinglaw25_few.l0, if_pos (by omega), if_pos (by omega), rd_tok, wr (by omega) (by omega), h4, drop_tok (show p < l.length by omega), List.all_cons]
    by_cases c : (l.getD p []).length ≤ 30
    · rw [if_neg (by omega), decide_eq_true c, Bool.true_and]
    · rw [if_pos (by omega), decide_eq_false c, Bool.false_and]
theorem few_eq (l : List (List Int)) (k : Nat) (hk : 40 ≤ k) : tattinglaw25_few.f k l = some (fewB l) := by
  unfold tattinglaw25_few.f fewB
  by_cases c : l.length ≤ 30
  · rw [if_neg (by omega), decide_eq_true c, Bool.true_and]
    exact few_l0 l c l.length k 0 (by omega) (by omega)
  · rw [if_pos (by omega), decide_eq_false c, Bool.false_and]
theorem all_l0 (l : List (List Int)) (hl : l.length ≤ 30) : ∀ (d k p : Nat), p + d = l.length → d < k → edit_all.l0 k l (l.length : Int) p = some (tokNE (l.drop p)) := by
  intro d
  induction d with
  | zero =>
    intro k p hp hk
    obtain ⟨k, rfl⟩ : ∃ m, k = m + 1 := ⟨k - 1, by omega⟩
    rw [edit_all.l0, if_neg (by omega), List.drop_eq_nil_of_le (by omega)]; rfl
  | succ d ih =>
    intro k p hp hk
    obtain ⟨k, rfl⟩ : ∃ m, k = m + 1 := ⟨k - 1, by omega⟩
    have h4 := ih k (p + 1) (by omega) (by omega)
    simp only [Int.natCast_add, Int.cast_ofNat_Int] at h4
    rw [edit_all.l0, if_pos (by omega), if_pos (by omega), if_pos (by omega), rd_tok, wr (by omega) (by omega), h4, drop_tok (show p < l.length by omega)]
    unfold tokNE
    rw [List.all_cons]
    by_cases c : (l.getD p []).length = 0
    · rw [if_pos (by omega), decide_eq_false (by omega), Bool.false_and]
    · rw [if_neg (by omega), decide_eq_true c, Bool.true_and]
theorem all_eq (l : List (List Int)) (hl : l.length ≤ 30) (k : Nat) (hk : 40 ≤ k) : edit_all.f k l = some (tokNE l) := by
  unfold edit_all.f
  exact all_l0 l hl l.length k 0 (by omega) (by omega)
theorem getD_mem28 {s : List S28} {p : Nat} (h : p < s.length) : s.getD p z28 ∈ s := by
  rw [List.getD_eq_getElem?_getD, List.getElem?_eq_getElem h]; exact List.getElem_mem h
theorem editGood_l0 (s : List S28) (hs : smallB s = true) : ∀ (d k p : Nat) (e : Int), -1 ≤ e → p + d = s.length → d + 60 ≤ k → edit_Good.l0 k e s (s.length : Int) p = some (goodFrom e (s.drop p)) := by
  have hl := smallB_len hs
  intro d
  induction d with
  | zero =>
    intro k p e he hp hk
    obtain ⟨k, rfl⟩ : ∃ m, k = m + 1 := ⟨k - 1, by omega⟩
    rw [edit_Good.l0, if_neg (by omega), List.drop_eq_nil_of_le (by omega)]; rfl
  | succ d ih =>
    intro k p e he hp hk
    obtain ⟨k, rfl⟩ : ∃ m, k = m + 1 := ⟨k - 1, by omega⟩
    obtain ⟨h1, h2⟩ := smallB_at hs _ (getD_mem28 (show p < s.length by omega))
    have g1 := fewB_len h1
    have g2 := fewB_len h2
    rw [edit_Good.l0, if_pos (by omega), if_pos (by omega), if_pos (by omega), rd_hunk, drop_hunk (show p < s.length by omega), goodFrom]
    generalize s.getD p z28 = x at g1 g2
    by_cases c1 : e < x.f0
    · rw [if_neg (by omega), decide_eq_true c1, Bool.true_and]
      by_cases c2 : x.f0 ≤ 1048576
      · rw [if_neg (by omega), decide_eq_true c2, Bool.true_and, wr (x := (x.f1.length : Int) + (x.f2.length : Int)) (by omega) (by omega)]
        unfold hGood
        by_cases c3 : x.f1.length + x.f2.length = 0
        · rw [if_pos (by omega), decide_eq_false (by omega)]; rfl
        · rw [if_neg (by omega), decide_eq_true c3, Bool.true_and, all_eq _ g1 _ (by omega), all_eq _ g2 _ (by omega), bs, bs]
          cases c4 : tokNE x.f1
          · simp
          · cases c5 : tokNE x.f2
            · simp
            · rw [itt, itt]
              have h4 := ih k (p + 1) (x.f0 + x.f1.length) (by omega) (by omega) (by omega)
              simp only [Int.natCast_add, Int.cast_ofNat_Int] at h4
              rw [wr (by omega) (by omega), wr (by omega) (by omega), h4, Bool.true_and, Bool.true_and]
      · rw [if_pos (by omega), decide_eq_false c2, Bool.false_and]
    · rw [if_pos (by omega), decide_eq_false c1, Bool.false_and]
theorem editGood_eq (s : List S28) (hs : smallB s = true) (k : Nat) (hk : 200 ≤ k) : edit_Good.f k s = some (goodFrom (-1) s) := by
  have hl := smallB_len hs
  unfold edit_Good.f
  exact editGood_l0 s hs s.length k 0 (-1) (by omega) (by omega) (by omega)
def invFrom : List S28 → List S28 → Int → (List S28 × Int)
  | [], t, _ => (t, 0)
  | h :: s, t, sh => if h.f0 + sh > 1048576 then ([], 2) else invFrom s (t ++ [⟨h.f0 + sh, h.f2, h.f1⟩]) (sh + ((h.f2.length : Int) - (h.f1.length : Int)))
def invMap : List S28 → Int → List S28
  | [], _ => []
  | h :: s, sh => ⟨h.f0 + sh, h.f2, h.f1⟩ :: invMap s (sh + ((h.f2.length : Int) - (h.f1.length : Int)))
def pInv (s : List S28) : List S28 × Int := if goodFrom (-1) s = true then invFrom s [] 0 else ([], 1)
theorem tokOk_few {l : List (List Int)} (h : fewB l = true) : tokOk l = true := by
  refine List.all_eq_true.2 fun t ht => decide_eq_true ?_
  have := fewB_tok h t ht
  omega
theorem more_few {l t : List (List Int)} (hl : l.length ≤ 1000000) (ht : fewB t = true) : patch_more.f l t = some (l ++ t) := by
  have := fewB_len ht
  unfold patch_more.f
  rw [if_pos (by omega), if_pos (tokOk_few ht)]
theorem smallB_cons {h : S28} {s : List S28} (hs : smallB (h :: s) = true) : fewB h.f1 = true ∧ fewB h.f2 = true ∧ smallB s = true := by
  have h1 := smallB_len hs
  have h2 := smallB_at hs
  refine ⟨(h2 h (by simp)).1, (h2 h (by simp)).2, ?_⟩
  unfold smallB
  rw [Bool.and_eq_true]
  simp only [List.length_cons] at h1
  refine ⟨decide_eq_true (by omega), List.all_eq_true.2 fun x hx => ?_⟩
  rw [Bool.and_eq_true]
  exact h2 x (by simp [hx])
theorem goodFrom_cons {e : Int} {h : S28} {s : List S28} (hg : goodFrom e (h :: s) = true) : e < h.f0 ∧ h.f0 ≤ 1048576 ∧ hGood h = true ∧ goodFrom (h.f0 + h.f1.length) s = true := by
  simp only [goodFrom, Bool.and_eq_true, decide_eq_true_eq] at hg
  exact hg
theorem small60_of {x : Int} (h : -1000000000 ≤ x) (h' : x ≤ 1000000000) : small60 x = true := decide_eq_true ⟨by omega, by omega⟩
theorem patchInv_l0 : ∀ (s t : List S28) (sh e : Int), smallB s = true → goodFrom e s = true → -1 ≤ e → -1000 * (41 - (s.length : Int)) ≤ sh → sh ≤ 1000 * (41 - (s.length : Int)) → t.length + s.length ≤ 40 → patch_Invert.l0 s t sh = some (invFrom s t sh)
  | [], t, sh, e, _, _, _, _, _, _ => rfl
  | h :: s, t, sh, e, hs, hg, he, h1, h2, h3 => by
    obtain ⟨f1, f2, f3⟩ := smallB_cons hs
    obtain ⟨g1, g2, _, g4⟩ := goodFrom_cons hg
    have l1 := fewB_len f1
    have l2 := fewB_len f2
    simp only [List.length_cons] at h1 h2 h3
    rw [patch_Invert.l0, invFrom, if_pos ⟨small60_of (by omega) (by omega), small60_of (by omega) (by omega)⟩]
    by_cases c : h.f0 + sh > 1048576
    · rw [if_pos c, if_pos c]
    · rw [if_neg c, if_neg c, if_pos (by omega), more_few (by simp) f2, more_few (by simp) f1, bs, bs, List.nil_append, List.nil_append]
      exact patchInv_l0 s _ _ (h.f0 + h.f1.length) f3 g4 (by omega) (by omega) (by omega) (by simp; omega)
theorem patchInv_eq (s : List S28) (hs : smallB s = true) (k : Nat) (hk : 200 ≤ k) : patch_Invert.f k s = some (pInv s) := by
  unfold patch_Invert.f pInv
  rw [editGood_eq s hs k hk, bs]
  have hl := smallB_len hs
  by_cases c : goodFrom (-1) s = true
  · rw [if_pos c, if_pos c]
    exact patchInv_l0 s [] 0 (-1) hs c (by omega) (by omega) (by omega) (by simp; omega)
  · rw [if_neg c, if_neg c]
theorem invFrom_map : ∀ (s t : List S28) (sh : Int), (invFrom s t sh).2 = 0 → invFrom s t sh = (t ++ invMap s sh, 0)
  | [], t, _, _ => by simp [invFrom, invMap]
  | h :: s, t, sh, h0 => by
    rw [invFrom] at h0 ⊢
    by_cases c : h.f0 + sh > 1048576
    · rw [if_pos c] at h0; cases h0
    · rw [if_neg c] at h0 ⊢
      rw [invFrom_map s _ _ h0, invMap, List.append_assoc]; rfl
theorem invFrom_some : ∀ (s t : List S28) (sh : Int), (∀ x ∈ invMap s sh, x.f0 ≤ 1048576) → invFrom s t sh = (t ++ invMap s sh, 0)
  | [], t, _, _ => by simp [invFrom, invMap]
  | h :: s, t, sh, h0 => by
    have h1 := h0 ⟨h.f0 + sh, h.f2, h.f1⟩ (by simp [invMap])
    rw [invFrom, if_neg (by simp only at h1; omega), invFrom_some s _ _ (fun x hx => h0 x (by simp [invMap, hx])), invMap, List.append_assoc]; rfl
theorem invMap_le : ∀ (s t : List S28) (sh : Int), (invFrom s t sh).2 = 0 → ∀ x ∈ invMap s sh, x.f0 ≤ 1048576
  | [], _, _, _ => by simp [invMap]
  | h :: s, t, sh, h0 => by
    rw [invFrom] at h0
    by_cases c : h.f0 + sh > 1048576
    · rw [if_pos c] at h0; cases h0
    · rw [if_neg c] at h0
      intro x hx
      simp only [invMap, List.mem_cons] at hx
      rcases hx with rfl | hx
      · show h.f0 + sh ≤ 1048576
        omega
      · exact invMap_le s _ _ h0 x hx
theorem invMap_good : ∀ (s : List S28) (sh e : Int), goodFrom e s = true → (∀ x ∈ invMap s sh, x.f0 ≤ 1048576) → goodFrom (e + sh) (invMap s sh) = true
  | [], _, _, _, _ => rfl
  | h :: s, sh, e, hg, hx => by
    obtain ⟨g1, g2, g3, g4⟩ := goodFrom_cons hg
    have h1 := hx ⟨h.f0 + sh, h.f2, h.f1⟩ (by simp [invMap])
    have h2 := invMap_good s (sh + ((h.f2.length : Int) - (h.f1.length : Int))) _ g4 (fun x hm => hx x (by simp [invMap, hm]))
    simp only at h1
    simp only [invMap, goodFrom, Bool.and_eq_true, decide_eq_true_eq]
    refine ⟨by omega, h1, ?_, ?_⟩
    · unfold hGood at g3 ⊢
      simp only [Bool.and_eq_true, decide_eq_true_eq] at g3 ⊢
      exact ⟨by omega, g3.2.2, g3.2.1⟩
    · rw [show h.f0 + sh + (h.f2.length : Int) = h.f0 + (h.f1.length : Int) + (sh + ((h.f2.length : Int) - (h.f1.length : Int))) by omega]
      exact h2
theorem invMap_back : ∀ (s : List S28) (sh : Int), invMap (invMap s sh) (-sh) = s
  | [], _ => rfl
  | h :: s, sh => by
    have h2 := invMap_back s (sh + ((h.f2.length : Int) - (h.f1.length : Int)))
    simp only [invMap]
    rw [show -sh + ((h.f1.length : Int) - (h.f2.length : Int)) = -(sh + ((h.f2.length : Int) - (h.f1.length : Int))) by omega, h2, show h.f0 + sh + -sh = h.f0 by omega]
theorem invMap_length : ∀ (s : List S28) (sh : Int), (invMap s sh).length = s.length
  | [], _ => rfl
  | h :: s, sh => by simp [invMap, invMap_length s]
theorem invMap_few : ∀ (s : List S28) (sh : Int), (∀ x ∈ s, fewB x.f1 = true ∧ fewB x.f2 = true) → ∀ x ∈ invMap s sh, fewB x.f1 = true ∧ fewB x.f2 = true
  | [], _, _ => by simp [invMap]
  | h :: s, sh, hx => by
    intro x hm
    simp only [invMap, List.mem_cons] at hm
    rcases hm with rfl | hm
    · exact ⟨(hx h (by simp)).2, (hx h (by simp)).1⟩
    · exact invMap_few s _ (fun y hy => hx y (by simp [hy])) x hm
theorem invMap_small {s : List S28} (hs : smallB s = true) (sh : Int) : smallB (invMap s sh) = true := by
  unfold smallB
  rw [Bool.and_eq_true]
  refine ⟨decide_eq_true (by rw [invMap_length]; exact smallB_len hs), List.all_eq_true.2 fun x hx => ?_⟩
  rw [Bool.and_eq_true]
  exact invMap_few s sh (smallB_at hs) x hx
/-- What is turned round twice is as it was. -/
theorem pInv_back {s : List S28} (hs : smallB s = true) (h0 : (pInv s).2 = 0) : pInv s = (invMap s 0, 0) ∧ smallB (invMap s 0) = true ∧ goodFrom (-1) s = true ∧ pInv (invMap s 0) = (s, 0) := by
  unfold pInv at h0
  by_cases c : goodFrom (-1) s = true
  · rw [if_pos c] at h0
    have h1 := invFrom_map s [] 0 h0
    have h2 := invMap_le s [] 0 h0
    have h3 := invMap_good s 0 (-1) c h2
    rw [show (-1 : Int) + 0 = -1 by omega] at h3
    have h4 := invMap_back s 0
    rw [show (-0 : Int) = 0 by omega] at h4
    refine ⟨?_, invMap_small hs 0, c, ?_⟩
    · unfold pInv; rw [if_pos c, h1]; rfl
    · unfold pInv
      rw [if_pos h3, invFrom_some _ _ _ ?_, h4]; rfl
      rw [h4]
      intro x hx
      clear h1 h2 h3 h4 h0 hs
      suffices ∀ (s : List S28) (e : Int), goodFrom e s = true → ∀ x ∈ s, x.f0 ≤ 1048576 from this s _ c x hx
      intro s
      induction s with
      | nil => intro e _ x hx; simp at hx
      | cons h s ih =>
        intro e hg x hx
        obtain ⟨_, g2, _, g4⟩ := goodFrom_cons hg
        simp only [List.mem_cons] at hx
        rcases hx with rfl | hx
        · exact g2
        · exact ih _ g4 x hx
  · rw [if_neg c] at h0; cases h0
theorem tokEqs_refl : ∀ l : List (List Int), tokEqs l l = true
  | [] => rfl
  | x :: l => by rw [tokEqs, tokEqs_refl l]; simp
theorem tokEqs_symm : ∀ {l m : List (List Int)}, tokEqs l m = true → tokEqs m l = true
  | [], [], _ => rfl
  | x :: l, [], h => by cases h
  | [], y :: m, h => by cases h
  | x :: l, y :: m, h => by
    rw [tokEqs, Bool.and_eq_true, beq_iff_eq] at h ⊢
    exact ⟨h.1.symm, tokEqs_symm h.2⟩
theorem tokEqs_length : ∀ {l m : List (List Int)}, tokEqs l m = true → l.length = m.length
  | [], [], _ => rfl
  | x :: l, [], h => by cases h
  | [], y :: m, h => by cases h
  | x :: l, y :: m, h => by
    rw [tokEqs, Bool.and_eq_true] at h
    simp [tokEqs_length h.2]
theorem tokEqs_append : ∀ {l m l' m' : List (List Int)}, tokEqs l m = true → tokEqs l' m' = true → tokEqs (l ++ l') (m ++ m') = true
  | [], [], _, _, _, h' => h'
  | x :: l, [], _, _, h, _ => by cases h
  | [], y :: m, _, _, h, _ => by cases h
  | x :: l, y :: m, _, _, h, h' => by
    rw [tokEqs, Bool.and_eq_true] at h
    rw [List.cons_append, List.cons_append, tokEqs, Bool.and_eq_true]
    exact ⟨h.1, tokEqs_append h.2 h'⟩
/-- What a script makes of a text from a place on; does it fit? -/
def appOut : List S28 → List (List Int) → Nat → List (List Int)
  | [], a, i => a.drop i
  | h :: s, a, i => (a.take h.f0.toNat).drop i ++ (h.f2 ++ appOut s a (h.f0.toNat + h.f1.length))
def fits : List S28 → List (List Int) → Bool
  | [], _ => true
  | h :: s, a => decide (h.f0.toNat + h.f1.length ≤ a.length) && (tokEqs ((a.drop h.f0.toNat).take h.f1.length) h.f1 && fits s a)
def pApp (s : List S28) (a : List (List Int)) : List (List Int) × Int := if goodFrom (-1) s = true then (if fits s a = true then (appOut s a 0, 0) else ([], 5)) else ([], 1)
def short (a : List (List Int)) : Prop := ∀ t ∈ a, t.length ≤ 30
theorem short_cut {a : List (List Int)} (h : short a) (n i : Nat) : short ((a.take n).drop i) := fun t ht => h t (List.mem_of_mem_take (List.mem_of_mem_drop ht))
theorem short_drop {a : List (List Int)} (h : short a) (i : Nat) : short (a.drop i) := fun t ht => h t (List.mem_of_mem_drop ht)
theorem more_short {l t : List (List Int)} (hl : l.length + t.length < 100000000) (ht : short t) : patch_more.f l t = some (l ++ t) := by
  unfold patch_more.f
  rw [if_pos (by omega), if_pos (show tokOk t = true from List.all_eq_true.2 fun x hx => decide_eq_true (by have := ht x hx; omega))]
theorem cut_len (a : List (List Int)) (n i : Nat) : ((a.take n).drop i).length ≤ a.length := by rw [List.length_drop, List.length_take]; omega
theorem patchApp_l0 (a : List (List Int)) (ha : a.length ≤ 1000) (hs0 : short a) : ∀ (s : List S28) (i : Nat) (b : List (List Int)) (e : Int), smallB s = true → goodFrom e s = true → -1 ≤ e → (i : Int) ≤ e + 1 → i ≤ a.length → b.length + 1100 * s.length ≤ 100000 →
    patch_Apply.l0 s a i b = some (if fits s a = true then (b ++ appOut s a i, 0) else ([], 5))
  | [], i, b, e, _, _, _, _, hi, hb => by
    have hl := short_drop hs0 i
    rw [patch_Apply.l0, if_pos hi, more_short (by rw [List.length_drop]; simp at hb; omega) hl, bs, fits, if_pos rfl, appOut]
  | h :: s, i, b, e, hs, hg, he, hie, hi, hb => by
    obtain ⟨f1, f2, f3⟩ := smallB_cons hs
    obtain ⟨g1, g2, _, g4⟩ := goodFrom_cons hg
    have l1 := fewB_len f1
    have l2 := fewB_len f2
    simp only [List.length_cons] at hb
    obtain ⟨m, hm⟩ : ∃ m : Nat, h.f0 = (m : Int) := ⟨h.f0.toNat, by omega⟩
    have hst : patch_stands.f a h.f1 h.f0 = some (decide (h.f0.toNat + h.f1.length ≤ a.length) && tokEqs ((a.drop h.f0.toNat).take h.f1.length) h.f1) := by
      unfold patch_stands.f
      rw [hm, Int.toNat_natCast, if_pos (by omega)]
      by_cases c1 : (m : Int) ≤ (a.length : Int)
      · rw [if_pos c1]
        by_cases c2 : (h.f1.length : Int) ≤ (a.length : Int) - (m : Int)
        · rw [if_pos c2, decide_eq_true (by omega), Bool.true_and, List.drop_take, Nat.add_sub_cancel_left]
        · rw [if_neg c2, decide_eq_false (by omega), Bool.false_and]
      · rw [if_neg c1, decide_eq_false (by omega), Bool.false_and]
    rw [patch_Apply.l0, hst, bs, fits]
    by_cases c1 : h.f0.toNat + h.f1.length ≤ a.length
    · rw [decide_eq_true c1, Bool.true_and, Bool.true_and]
      cases c2 : tokEqs ((a.drop h.f0.toNat).take h.f1.length) h.f1
      · rw [if_neg (by decide), Bool.false_and, if_neg (by decide)]
      · have h3 := cut_len a h.f0.toNat i
        have hf2 : short h.f2 := fewB_tok f2
        rw [if_pos rfl, Bool.true_and, if_pos (by omega), more_short (by omega) (short_cut hs0 _ _), bs, more_short (by rw [List.length_append]; omega) hf2, bs,
          patchApp_l0 a ha hs0 s _ _ (h.f0 + h.f1.length) f3 g4 (by omega) (by omega) c1 (by simp only [List.length_append]; omega), appOut, List.append_assoc, List.append_assoc]
    · rw [decide_eq_false c1, Bool.false_and, Bool.false_and, if_neg (by decide), if_neg (by decide)]
theorem patchApp_eq (s : List S28) (a : List (List Int)) (hs : smallB s = true) (ha : a.length ≤ 1000) (hs0 : short a) (k : Nat) (hk : 200 ≤ k) : patch_Apply.f k s a = some (pApp s a) := by
  unfold patch_Apply.f pApp
  rw [editGood_eq s hs k hk, bs]
  have hl := smallB_len hs
  by_cases c : goodFrom (-1) s = true
  · rw [if_pos c, if_pos c, patchApp_l0 a ha hs0 s 0 [] (-1) hs c (by omega) (by omega) (by omega) (by simp; omega)]; rfl
  · rw [if_neg c, if_neg c]
theorem appOut_len (a : List (List Int)) : ∀ (s : List S28) (i : Nat), smallB s = true → (appOut s a i).length ≤ (s.length + 1) * (a.length + 30)
  | [], i, _ => by rw [appOut, List.length_drop]; simp; omega
  | h :: s, i, hs => by
    obtain ⟨f1, f2, f3⟩ := smallB_cons hs
    have l2 := fewB_len f2
    have h3 := cut_len a h.f0.toNat i
    have h4 := appOut_len a s (h.f0.toNat + h.f1.length) f3
    rw [appOut, List.length_append, List.length_append, List.length_cons, Nat.succ_mul]
    omega
theorem appOut_short (a : List (List Int)) (ha : short a) : ∀ (s : List S28) (i : Nat), smallB s = true → short (appOut s a i)
  | [], i, _ => short_drop ha i
  | h :: s, i, hs => by
    obtain ⟨f1, f2, f3⟩ := smallB_cons hs
    intro t ht
    rw [appOut, List.mem_append, List.mem_append] at ht
    rcases ht with ht | ht | ht
    · exact short_cut ha _ _ t ht
    · exact fewB_tok f2 t ht
    · exact appOut_short a ha s _ f3 t ht
theorem pApp_len {s : List S28} {a : List (List Int)} (hs : smallB s = true) (ha : a.length ≤ 30) : (pApp s a).1.length ≤ 2460 := by
  unfold pApp
  split
  · split
    · have h1 := appOut_len a s 0 hs
      have h2 := smallB_len hs
      have h3 : (s.length + 1) * (a.length + 30) ≤ 41 * 60 := Nat.mul_le_mul (by omega) (by omega)
      exact Nat.le_trans h1 h3
    · simp
  · simp
theorem pApp_short {s : List S28} {a : List (List Int)} (hs : smallB s = true) (ha : short a) : short (pApp s a).1 := by
  unfold pApp
  split
  · split
    · exact appOut_short a ha s 0 hs
    · intro t ht; simp at ht
  · intro t ht; simp at ht
theorem tokEqs_getD : ∀ {l m : List (List Int)} (p : Nat), tokEqs l m = true → (strOfNums (l.getD p [])).toList = (strOfNums (m.getD p [])).toList
  | [], [], _, _ => rfl
  | x :: l, [], _, h => by cases h
  | [], y :: m, _, h => by cases h
  | x :: l, y :: m, 0, h => by
    rw [tokEqs, Bool.and_eq_true, beq_iff_eq] at h
    simpa using h.1
  | x :: l, y :: m, p + 1, h => by
    rw [tokEqs, Bool.and_eq_true] at h
    have := tokEqs_getD p h.2
    simpa using this
theorem sameToks_l0 (x y : List (List Int)) (h : tokEqs x y = true) (hx : x.length ≤ 1000000) : ∀ (d k p : Nat), p + d = x.length → d < k → tattingref1_SameTokens.l0 k x y p = some true := by
  have hl := tokEqs_length h
  intro d
  induction d with
  | zero =>
    intro k p hp hk
    obtain ⟨k, rfl⟩ : ∃ m, k = m + 1 := ⟨k - 1, by omega⟩
    rw [tattingref1_SameTokens.l0, if_neg (by omega)]
  | succ d ih =>
    intro k p hp hk
    obtain ⟨k, rfl⟩ : ∃ m, k = m + 1 := ⟨k - 1, by omega⟩
    have h4 := ih k (p + 1) (by omega) (by omega)
    simp only [Int.natCast_add, Int.cast_ofNat_Int] at h4
    rw [tattingref1_SameTokens.l0, if_pos (by omega), if_pos (by omega), if_pos (by omega), rd_tok, rd_tok, if_pos (tokEqs_getD p h), wr (by omega) (by omega), h4]
theorem sameToks_eqs {x y : List (List Int)} (h : tokEqs x y = true) (hx : x.length ≤ 1000000) (k : Nat) (hk : x.length < k) : tattingref1_SameTokens.f k x y = some true := by
  unfold tattingref1_SameTokens.f
  rw [if_pos (by rw [tokEqs_length h])]
  exact sameToks_l0 x y h hx x.length k 0 (by omega) hk
/-- Of a script that fits, no place is beyond the text. -/
theorem fits_le (a : List (List Int)) : ∀ (s : List S28) (sh : Int) (n : Nat), smallB s = true → fits s a = true → (∀ x ∈ s, 0 ≤ x.f0) → (sh ≤ 30 * (n : Int)) → ∀ x ∈ invMap s sh, x.f0 ≤ a.length + 30 * ((n : Int) + s.length)
  | [], _, _, _, _, _, _ => by simp [invMap]
  | h :: s, sh, n, hs, hf, h0, hn => by
    obtain ⟨f1, f2, f3⟩ := smallB_cons hs
    have l2 := fewB_len f2
    simp only [fits, Bool.and_eq_true, decide_eq_true_eq] at hf
    obtain ⟨p1, p2, p3⟩ := hf
    have hh := h0 h (by simp)
    intro x hx
    simp only [invMap, List.mem_cons] at hx
    rcases hx with rfl | hx
    · show h.f0 + sh ≤ _
      simp only [List.length_cons]
      omega
    · have := fits_le a s _ (n + 1) f3 p3 (fun y hy => h0 y (by simp [hy])) (by omega) x hx
      simp only [List.length_cons]
      omega
theorem good_nonneg : ∀ (s : List S28) (e : Int), -1 ≤ e → goodFrom e s = true → ∀ x ∈ s, 0 ≤ x.f0
  | [], _, _, _ => by simp
  | h :: s, e, he, hg => by
    obtain ⟨g1, _, _, g4⟩ := goodFrom_cons hg
    intro x hx
    simp only [List.mem_cons] at hx
    rcases hx with rfl | hx
    · omega
    · exact good_nonneg s _ (by omega) g4 x hx

def str (t : List Int) : List UInt8 := (strOfNums t).toList
theorem below_l0 (x y : List Int) (hx : x.length ≤ 1000) : ∀ (d k p : Nat), p + d = x.length → 2 * d + 2 ≤ k → ∃ c, tattingref1_Below.l0 k x y p = some c := by
  intro d
  induction d with
  | zero =>
    intro k p hp hk
    obtain ⟨k, rfl⟩ : ∃ m, k = m + 2 := ⟨k - 2, by omega⟩
    rw [tattingref1_Below.l0, if_neg (by omega), tattingref1_Below.j1, if_neg (by decide)]
    exact ⟨_, rfl⟩
  | succ d ih =>
    intro k p hp hk
    obtain ⟨k, rfl⟩ : ∃ m, k = m + 2 := ⟨k - 2, by omega⟩
    obtain ⟨c, h4⟩ := ih k (p + 1) (by omega) (by omega)
    simp only [Int.natCast_add, Int.cast_ofNat_Int] at h4
    rw [tattingref1_Below.l0, if_pos (by omega), tattingref1_Below.j1]
    by_cases c1 : (p : Int) < (y.length : Int)
    · rw [decide_eq_true c1, if_pos rfl, if_pos (by omega), if_pos (by omega), if_pos c1, wr (by omega) (by omega), h4]
      by_cases c2 : rd x p = rd y p
      · rw [if_pos c2]; exact ⟨_, rfl⟩
      · rw [if_neg c2]; exact ⟨_, rfl⟩
    · rw [decide_eq_false c1, if_neg (by decide)]; exact ⟨_, rfl⟩
theorem below_some (x y : List Int) (hx : x.length ≤ 30) (k : Nat) (hk : 100 ≤ k) : ∃ c, tattingref1_Below.f k x y = some c := by
  unfold tattingref1_Below.f
  exact below_l0 x y (by omega) x.length k 0 (by omega) (by omega)
theorem sort_at_some (k : Nat) (hk : 100 ≤ k) (t : List Int) : ∀ (d : List (List Int)) (q : Nat), (∀ x ∈ d, x.length ≤ 30) → ∃ r, sort_at k t d q = some r
  | [], q, _ => ⟨q, rfl⟩
  | x :: d, q, h => by
    obtain ⟨c, hc⟩ := below_some x t (h x (by simp)) k hk
    rw [sort_at, hc, bs]
    by_cases c1 : c = true
    · rw [if_pos c1]; exact sort_at_some k hk t d (q + 1) (fun y hy => h y (by simp [hy]))
    · rw [if_neg c1]; exact ⟨_, rfl⟩
theorem sort_l0 (k : Nat) (hk : 100 ≤ k) : ∀ (l d : List (List Int)), (∀ x ∈ l, x.length ≤ 30) → (∀ x ∈ d, x.length ≤ 30) → d.length + l.length ≤ 1000000 →
    ∃ r, tattingref1_Sort.l0 k l d = some r ∧ (∀ x ∈ d, x ∈ r) ∧ (∀ x ∈ l, ∃ u ∈ r, str u = str x) ∧ r.length ≤ d.length + l.length ∧ (∀ x ∈ r, x.length ≤ 30)
  | [], d, _, hd, _ => ⟨d, rfl, fun _ h => h, by simp, by simp, hd⟩
  | t :: l, d, hl, hd, hn => by
    obtain ⟨q, hq⟩ := sort_at_some k hk t d 0 hd
    rw [tattingref1_Sort.l0, hq, bs]
    simp only [List.length_cons] at hn ⊢
    by_cases c : q < d.length ∧ ((strOfNums (d.getD q [])).toList == (strOfNums t).toList) = true
    · rw [if_pos c]
      obtain ⟨r, h1, h2, h3, h4, h5⟩ := sort_l0 k hk l d (fun x hx => hl x (by simp [hx])) hd (by omega)
      refine ⟨r, h1, h2, fun x hx => ?_, by omega, h5⟩
      simp only [List.mem_cons] at hx
      rcases hx with rfl | hx
      · refine ⟨d.getD q [], h2 _ ?_, beq_iff_eq.1 c.2⟩
        rw [List.getD_eq_getElem?_getD, List.getElem?_eq_getElem c.1]; exact List.getElem_mem c.1
      · exact h3 x hx
    · rw [if_neg c, if_pos (by omega)]
      have hin : ∀ x, x ∈ d.take q ++ [t] ++ d.drop q ↔ x = t ∨ x ∈ d := fun x => by
        rw [List.mem_append, List.mem_append, List.mem_singleton]
        constructor
        · rintro ((h | h) | h)
          · exact .inr (List.mem_of_mem_take h)
          · exact .inl h
          · exact .inr (List.mem_of_mem_drop h)
        · rintro (h | h)
          · exact .inl (.inr h)
          · rw [← List.take_append_drop q d, List.mem_append] at h
            rcases h with h | h
            · exact .inl (.inl h)
            · exact .inr h
      have hlen : (d.take q ++ [t] ++ d.drop q).length = d.length + 1 := by simp only [List.length_append, List.length_take, List.length_drop, List.length_cons, List.length_nil]; omega
      obtain ⟨r, h1, h2, h3, h4, h5⟩ := sort_l0 k hk l (d.take q ++ [t] ++ d.drop q) (fun x hx => hl x (by simp [hx])) (fun x hx => by
        rcases (hin x).1 hx with rfl | h
        · exact hl x (by simp)
        · exact hd x h) (by rw [hlen]; omega)
      refine ⟨r, h1, fun x hx => h2 x ((hin x).2 (.inr hx)), fun x hx => ?_, by rw [hlen] at h4; omega, h5⟩
      simp only [List.mem_cons] at hx
      rcases hx with rfl | hx
      · exact ⟨x, h2 x ((hin x).2 (.inl rfl)), rfl⟩
      · exact h3 x hx
/-- The first place of a token in a list. -/
def idx : List (List Int) → List UInt8 → Option Nat
  | [], _ => none
  | u :: d, s => if str u = s then some 0 else (idx d s).map (· + 1)
def idOf (d : List (List Int)) (t : List Int) : Int := ((idx d (str t)).getD 0 : Nat)
theorem idx_some : ∀ {d : List (List Int)} {s : List UInt8}, (∃ u ∈ d, str u = s) → ∃ m, idx d s = some m
  | [], _, ⟨u, hu, _⟩ => by simp at hu
  | v :: d, s, ⟨u, hu, e⟩ => by
    rw [idx]
    by_cases c : str v = s
    · rw [if_pos c]; exact ⟨0, rfl⟩
    · rw [if_neg c]
      simp only [List.mem_cons] at hu
      rcases hu with rfl | hu
      · exact absurd e c
      · obtain ⟨m, hm⟩ := idx_some ⟨u, hu, e⟩
        rw [hm]; exact ⟨m + 1, rfl⟩
theorem find_l0 (d : List (List Int)) (t : List Int) (hd : d.length ≤ 1000000) : ∀ (n k p : Nat), p + n = d.length → n < k → tattingref1_Find.l0 k d t p = some (match idx (d.drop p) (str t) with | some m => ((p : Int) + (m : Int), true) | none => (0, false)) := by
  intro n
  induction n with
  | zero =>
    intro k p hp hk
    obtain ⟨k, rfl⟩ : ∃ m, k = m + 1 := ⟨k - 1, by omega⟩
    rw [tattingref1_Find.l0, if_neg (by omega), List.drop_eq_nil_of_le (by omega)]; rfl
  | succ n ih =>
    intro k p hp hk
    obtain ⟨k, rfl⟩ : ∃ m, k = m + 1 := ⟨k - 1, by omega⟩
    have h4 := ih k (p + 1) (by omega) (by omega)
    simp only [Int.natCast_add, Int.cast_ofNat_Int] at h4
    have hS : tattingref1_Same.f (d.getD p []) t = some (str (d.getD p []) == str t) := rfl
    rw [tattingref1_Find.l0, if_pos (by omega), if_pos (by omega), rd_tok, hS, bs, wr (by omega) (by omega), h4, drop_tok (show p < d.length by omega), idx]
    by_cases c : str (d.getD p []) = str t
    · rw [if_pos (beq_iff_eq.2 c), if_pos c]; simp
    · rw [if_neg (by rw [beq_iff_eq]; exact c), if_neg c]
      cases idx (d.drop (p + 1)) (str t) with
      | none => rfl
      | some m => simp only [Option.map_some]; congr 2; omega
theorem find_eq (d : List (List Int)) (t : List Int) (hd : d.length ≤ 100) (h : ∃ u ∈ d, str u = str t) (k : Nat) (hk : 1000 ≤ k) : tattingref1_Find.f k d t = some (idOf d t, true) := by
  obtain ⟨m, hm⟩ := idx_some h
  unfold tattingref1_Find.f idOf
  have := find_l0 d t (by omega) d.length k 0 (by omega) (by omega)
  rw [List.drop_zero, hm] at this
  rw [hm]
  refine this.trans ?_
  simp
theorem ids_l0 (d l : List (List Int)) (hd : d.length ≤ 1000) (hl : l.length ≤ 1000) (h : ∀ t ∈ l, ∃ u ∈ d, str u = str t) : ∀ (n k p : Nat) (acc : List Int), p + n = l.length → acc.length = p → n + 1100 ≤ k → tattingref1_Ids.l0 k d l acc p = some (acc ++ (l.drop p).map (idOf d), true) := by
  intro n
  induction n with
  | zero =>
    intro k p acc hp ha hk
    obtain ⟨k, rfl⟩ : ∃ m, k = m + 1 := ⟨k - 1, by omega⟩
    rw [tattingref1_Ids.l0, if_neg (by omega), List.drop_eq_nil_of_le (by omega)]; simp
  | succ n ih =>
    intro k p acc hp ha hk
    obtain ⟨k, rfl⟩ : ∃ m, k = m + 1 := ⟨k - 1, by omega⟩
    have hmem : l.getD p [] ∈ l := by rw [List.getD_eq_getElem?_getD, List.getElem?_eq_getElem (show p < l.length by omega)]; exact List.getElem_mem _
    obtain ⟨m, hm⟩ := idx_some (h _ hmem)
    have hf : tattingref1_Find.f k d (l.getD p []) = some (idOf d (l.getD p []), true) := by
      unfold tattingref1_Find.f idOf
      have := find_l0 d (l.getD p []) (by omega) d.length k 0 (by omega) (by omega)
      rw [List.drop_zero, hm] at this
      rw [hm]
      refine this.trans ?_
      simp
    have h4 := ih k (p + 1) (acc ++ [idOf d (l.getD p [])]) (by omega) (by simp [ha]) (by omega)
    simp only [Int.natCast_add, Int.cast_ofNat_Int] at h4
    rw [tattingref1_Ids.l0, if_pos (by omega), if_pos (by omega), rd_tok, hf, bs, if_pos rfl, if_pos (by omega), wr (by omega) (by omega), h4, drop_tok (show p < l.length by omega), List.map_cons, List.append_assoc]
    rfl
/-- Two lists of tokens, as numbers: alike where they are alike. -/
theorem two_eq (a b : List (List Int)) (ha : a.length ≤ 450) (hb : b.length ≤ 450) (ha' : short a) (hb' : short b) (k : Nat) (hk : 3000 ≤ k) :
    ∃ d : List (List Int), tattingref1_Two.f k a b = some (a.map (idOf d), b.map (idOf d), (d.length : Int)) ∧ (∀ x ∈ a ++ b, ∃ u ∈ d, str u = str x) := by
  obtain ⟨d, h1, _, h3, h4, _⟩ := sort_l0 k (by omega) (a ++ b) [] (fun x hx => by rw [List.mem_append] at hx; rcases hx with h | h; exact ha' x h; exact hb' x h) (by simp) (by simp only [List.length_append, List.length_nil]; omega)
  simp only [List.length_append, List.length_nil] at h4
  refine ⟨d, ?_, h3⟩
  have hA : tattingref1_Ids.f k d a = some (a.map (idOf d), true) := by
    unfold tattingref1_Ids.f
    have := ids_l0 d a (by omega) (by omega) (fun t ht => h3 t (by simp [ht])) a.length k 0 [] (by omega) rfl (by omega)
    simpa using this
  have hB : tattingref1_Ids.f k d b = some (b.map (idOf d), true) := by
    unfold tattingref1_Ids.f
    have := ids_l0 d b (by omega) (by omega) (fun t ht => h3 t (by simp [ht])) b.length k 0 [] (by omega) rfl (by omega)
    simpa using this
  have hS : tattingref1_Sort.f k (a ++ b) = some d := h1
  unfold tattingref1_Two.f
  rw [bs, if_pos (by simp; omega), List.nil_append, bs, if_pos (by omega), hS, bs, hA, bs, hB, bs]

theorem tokEqs_drop : ∀ (n : Nat) {l m : List (List Int)}, tokEqs l m = true → tokEqs (l.drop n) (m.drop n) = true
  | 0, _, _, h => h
  | n + 1, [], [], _ => rfl
  | n + 1, x :: l, [], h => by cases h
  | n + 1, [], y :: m, h => by cases h
  | n + 1, x :: l, y :: m, h => by
    rw [tokEqs, Bool.and_eq_true] at h
    exact tokEqs_drop n h.2
theorem tokEqs_take : ∀ (n : Nat) {l m : List (List Int)}, tokEqs l m = true → tokEqs (l.take n) (m.take n) = true
  | 0, _, _, _ => rfl
  | n + 1, [], [], _ => rfl
  | n + 1, x :: l, [], h => by cases h
  | n + 1, [], y :: m, h => by cases h
  | n + 1, x :: l, y :: m, h => by
    rw [tokEqs, Bool.and_eq_true] at h
    rw [List.take_succ_cons, List.take_succ_cons, tokEqs, Bool.and_eq_true]
    exact ⟨h.1, tokEqs_take n h.2⟩
theorem appFits_back2 (a B : List (List Int)) : ∀ (s : List S28) (i i' : Nat) (sh e : Int), goodFrom e s = true → -1 ≤ e → (i : Int) ≤ e + 1 → i ≤ a.length → fits s a = true → (i' : Int) = i + sh → i' ≤ B.length → tokEqs (B.drop i') (appOut s a i) = true →
    fits (invMap s sh) B = true ∧ tokEqs (appOut (invMap s sh) B i') (a.drop i) = true
  | [], i, i', sh, e, _, _, _, _, _, _, _, hB => ⟨rfl, by rw [invMap, appOut]; exact hB⟩
  | h :: s, i, i', sh, e, hg, he, hie, hi, hf, hsh, hib, hB => by
    obtain ⟨g1, g2, _, g4⟩ := goodFrom_cons hg
    simp only [fits, Bool.and_eq_true, decide_eq_true_eq] at hf
    obtain ⟨f1, f2, f3⟩ := hf
    obtain ⟨m, hm⟩ : ∃ m : Nat, h.f0 = (m : Int) := ⟨h.f0.toNat, by omega⟩
    rw [hm] at g1 g2 g4
    rw [hm, Int.toNat_natCast] at f1 f2
    rw [appOut, hm, Int.toNat_natCast] at hB
    obtain ⟨m', hm'⟩ : ∃ m' : Nat, (m : Int) + sh = (m' : Int) := ⟨((m : Int) + sh).toNat, by omega⟩
    have hseg : ((a.take m).drop i).length = m - i := by rw [List.length_drop, List.length_take]; omega
    have hBl : B.length - i' = (m - i) + (h.f2.length + (appOut s a (m + h.f1.length)).length) := by
      have := tokEqs_length hB
      rw [List.length_drop, List.length_append, List.length_append, hseg] at this
      exact this
    have hd1 : tokEqs (B.drop m') (h.f2 ++ appOut s a (m + h.f1.length)) = true := by
      have e1 : B.drop m' = (B.drop i').drop (m - i) := by rw [List.drop_drop]; congr 1; omega
      have := tokEqs_drop (m - i) hB
      have e2 : ((a.take m).drop i).drop (m - i) = [] := List.drop_eq_nil_of_le (by omega)
      rw [List.drop_append, hseg, Nat.sub_self, e2, List.drop_zero, List.nil_append] at this
      rw [e1]; exact this
    have hd2 : tokEqs (B.drop (m' + h.f2.length)) (appOut s a (m + h.f1.length)) = true := by
      have := tokEqs_drop h.f2.length hd1
      rw [List.drop_append, Nat.sub_self, List.drop_length, List.drop_drop] at this
      exact this
    have hd3 : tokEqs ((B.take m').drop i') ((a.take m).drop i) = true := by
      have := tokEqs_take (m - i) hB
      have e2 : ((a.take m).drop i).take (m - i) = (a.take m).drop i := List.take_of_length_le (by omega)
      rw [List.take_append, hseg, Nat.sub_self, e2, List.take_zero, List.append_nil] at this
      rw [List.drop_take, show m' - i' = m - i by omega]
      exact this
    obtain ⟨h1, h2⟩ := appFits_back2 a B s (m + h.f1.length) (m' + h.f2.length) (sh + ((h.f2.length : Int) - (h.f1.length : Int))) _ g4 (by omega) (by omega) f1 f3 (by omega) (by omega) hd2
    refine ⟨?_, ?_⟩
    · simp only [invMap, fits, Bool.and_eq_true, decide_eq_true_eq, hm, hm', Int.toNat_natCast]
      refine ⟨by omega, ?_, h1⟩
      have := tokEqs_take h.f2.length hd1
      rw [List.take_left' rfl] at this
      exact this
    · simp only [invMap, appOut, hm, hm', Int.toNat_natCast]
      have e1 : a.drop i = (a.take m).drop i ++ ((a.drop m).take h.f1.length ++ a.drop (m + h.f1.length)) := by
        have e2 : a.drop m = (a.drop m).take h.f1.length ++ a.drop (m + h.f1.length) := by
          rw [← List.drop_drop]; exact (List.take_append_drop _ _).symm
        rw [← e2, List.drop_take]
        have : a.drop m = (a.drop i).drop (m - i) := by rw [List.drop_drop]; congr 1; omega
        rw [this]; exact (List.take_append_drop _ _).symm
      rw [e1]
      exact tokEqs_append hd3 (tokEqs_append (tokEqs_symm f2) h2)
/-- The script of pairs. -/
def mkHunk (a b : List (List Int)) (i p j q : Nat) : List S28 := if p > i ∨ q > j then [⟨(i : Int), (a.take p).drop i, (b.take q).drop j⟩] else []
def mk (a b : List (List Int)) : List S54 → Nat → Nat → List S28
  | [], i, j => mkHunk a b i a.length j b.length
  | p :: l, i, j => mkHunk a b i p.f0.toNat j p.f1.toNat ++ mk a b l (p.f0.toNat + 1) (p.f1.toNat + 1)
/-- Pairs that rise within both, of tokens that are alike. -/
def rises (a b : List (List Int)) : List S54 → Nat → Nat → Prop
  | [], i, j => i ≤ a.length ∧ j ≤ b.length
  | p :: l, i, j => 0 ≤ p.f0 ∧ 0 ≤ p.f1 ∧ i ≤ p.f0.toNat ∧ j ≤ p.f1.toNat ∧ p.f0.toNat < a.length ∧ p.f1.toNat < b.length ∧ str (a.getD p.f0.toNat []) = str (b.getD p.f1.toNat []) ∧ rises a b l (p.f0.toNat + 1) (p.f1.toNat + 1)
theorem rises_len (a b : List (List Int)) : ∀ (l : List S54) (i j : Nat), rises a b l i j → i + l.length ≤ a.length
  | [], i, j, h => by simpa using h.1
  | p :: l, i, j, ⟨_, _, h3, _, _, _, _, h8⟩ => by
    have := rises_len a b l _ _ h8
    simp only [List.length_cons]; omega
theorem make_l0 (a b : List (List Int)) (ha : a.length ≤ 30) (hb : b.length ≤ 30) (l : List S54) (hl : l.length ≤ 30) : ∀ (d k q : Nat) (acc : List S28) (i j : Nat), q + d = l.length → d + 2 < k → rises a b (l.drop q) i j → acc.length ≤ q →
    tattingref24_Make.l0 k a b l acc i j q = some (acc ++ mk a b (l.drop q) i j, 0) := by
  intro d
  induction d with
  | zero =>
    intro k q acc i j hq hk hr hac
    obtain ⟨k, rfl⟩ : ∃ m, k = m + 2 := ⟨k - 2, by omega⟩
    rw [List.drop_eq_nil_of_le (by omega)] at hr ⊢
    obtain ⟨r1, r2⟩ := hr
    have hend : ∀ (acc' : List S28) (x y : Int), tattingref24_Make.l0 (k + 1) a b l acc' x y (wrap64 ((q : Int) + 1)) = some (acc', 0) := fun acc' x y => by
      rw [wr (by omega) (by omega), tattingref24_Make.l0, if_neg (by omega)]
    rw [tattingref24_Make.l0, if_pos (by omega), if_neg (by omega), hend, hend, mk, mkHunk]
    by_cases c1 : a.length > i
    · rw [if_pos (by omega), if_pos (by omega), if_pos (by omega), if_pos (by omega), if_pos (by omega), if_pos (by omega), if_pos (by omega), if_pos (by omega), if_pos (by omega)]
      simp only [Int.toNat_natCast]
    · rw [if_neg (by omega)]
      by_cases c2 : b.length > j
      · rw [if_pos (by omega), if_pos (by omega), if_pos (by omega), if_pos (by omega), if_pos (by omega), if_pos (by omega), if_pos (by omega), if_pos (by omega), if_pos (by omega)]
        simp only [Int.toNat_natCast]
      · rw [if_neg (by omega), if_neg (by omega), List.append_nil]
  | succ d ih =>
    intro k q acc i j hq hk hr hac
    obtain ⟨k, rfl⟩ : ∃ m, k = m + 1 := ⟨k - 1, by omega⟩
    have hdr : l.drop q = l.getD q z54 :: l.drop (q + 1) := drop_getD_pair (show q < l.length by omega)
    have hrd : rd_T54 l (q : Int) = l.getD q z54 := rfl
    rw [hdr] at hr ⊢
    obtain ⟨r1, r2, r3, r4, r5, r6, _, r8⟩ := hr
    rw [tattingref24_Make.l0, if_pos (by omega), if_pos (by omega), if_pos (by omega), hrd, mk, mkHunk]
    generalize l.getD q z54 = p at r1 r2 r3 r4 r5 r6 r8
    obtain ⟨p0, p1⟩ := p
    simp only at r1 r2 r3 r4 r5 r6 r8 ⊢
    obtain ⟨I, rfl⟩ := Int.eq_ofNat_of_zero_le r1
    obtain ⟨J, rfl⟩ := Int.eq_ofNat_of_zero_le r2
    simp only [Int.toNat_natCast] at r3 r4 r5 r6 r8 ⊢
    have h4 := fun acc' h => ih k (q + 1) acc' (I + 1) (J + 1) (by omega) (by omega) r8 h
    simp only [Int.natCast_add, Int.cast_ofNat_Int] at h4
    rw [wr (x := (I : Int) + 1) (by omega) (by omega), wr (x := (J : Int) + 1) (by omega) (by omega), wr (x := (q : Int) + 1) (by omega) (by omega)]
    by_cases c1 : I > i
    · rw [if_pos (by omega), if_pos (by omega), if_pos (by omega), if_pos (by omega), if_pos (by omega), if_pos (by omega), if_pos (by omega), if_pos (by omega), if_pos (by omega), h4 _ (by simp; omega), List.append_assoc]
    · rw [if_neg (by omega)]
      by_cases c2 : J > j
      · rw [if_pos (by omega), if_pos (by omega), if_pos (by omega), if_pos (by omega), if_pos (by omega), if_pos (by omega), if_pos (by omega), if_pos (by omega), if_pos (by omega), h4 _ (by simp; omega), List.append_assoc]
      · rw [if_neg (by omega), if_neg (by omega), h4 _ (by omega), List.nil_append]
/-- From an earlier place on. -/
theorem appOut_from (a : List (List Int)) : ∀ (s : List S28) (i i' : Nat), i' ≤ i → i ≤ a.length → (∀ h ∈ s, i ≤ h.f0.toNat) → appOut s a i' = (a.take i).drop i' ++ appOut s a i
  | [], i, i', h1, h2, _ => by
    rw [appOut, appOut]
    have : a.drop i = (a.drop i').drop (i - i') := by rw [List.drop_drop]; congr 1; omega
    rw [List.drop_take, this]; exact (List.take_append_drop _ _).symm
  | h :: s, i, i', h1, h2, h3 => by
    have hf := h3 h (by simp)
    rw [appOut, appOut]
    have e1 : (a.take h.f0.toNat).drop i' = (a.take i).drop i' ++ (a.take h.f0.toNat).drop i := by
      have e2 : (a.take h.f0.toNat).drop i = ((a.take h.f0.toNat).drop i').drop (i - i') := by rw [List.drop_drop]; congr 1; omega
      have e3 : (a.take i).drop i' = ((a.take h.f0.toNat).drop i').take (i - i') := by
        rw [List.drop_take, List.drop_take, List.take_take]; congr 1; omega
      rw [e2, e3]; exact (List.take_append_drop _ _).symm
    rw [e1, List.append_assoc]
theorem mkHunk_f0 {a b : List (List Int)} {i p j q : Nat} : ∀ h ∈ mkHunk a b i p j q, h.f0 = (i : Int) := by
  intro h hh
  unfold mkHunk at hh
  split at hh
  · simp only [List.mem_singleton] at hh; rw [hh]
  · simp at hh
theorem mk_f0 (a b : List (List Int)) : ∀ (l : List S54) (i j : Nat), rises a b l i j → ∀ h ∈ mk a b l i j, (i : Int) ≤ h.f0
  | [], i, j, _ => fun h hh => by rw [mk] at hh; rw [mkHunk_f0 h hh]; omega
  | p :: l, i, j, ⟨_, _, h3, _, _, _, _, h8⟩ => fun h hh => by
    rw [mk, List.mem_append] at hh
    rcases hh with hh | hh
    · rw [mkHunk_f0 h hh]; omega
    · have := mk_f0 a b l _ _ h8 h hh; omega
theorem neS {l : List (List Int)} (h : tokNE l = true) (n i : Nat) : tokNE ((l.take n).drop i) = true := by
  refine List.all_eq_true.2 fun t ht => List.all_eq_true.1 h t (List.mem_of_mem_take (List.mem_of_mem_drop ht))
theorem mkHunk_good (a b : List (List Int)) (hna : tokNE a = true) (hnb : tokNE b = true) {i p j q : Nat} (hi : i ≤ p) (hj : j ≤ q) (hp : p ≤ a.length) (hq : q ≤ b.length) (hp' : p ≤ 1048576) {e : Int} (he : e < (i : Int)) {s : List S28} (hs : ∀ e' : Int, e' ≤ (p : Int) → goodFrom e' s = true) :
    goodFrom e (mkHunk a b i p j q ++ s) = true := by
  unfold mkHunk
  by_cases c : p > i ∨ q > j
  · rw [if_pos c, List.singleton_append]
    have l1 : ((a.take p).drop i).length = p - i := by rw [List.length_drop, List.length_take]; omega
    have l2 : ((b.take q).drop j).length = q - j := by rw [List.length_drop, List.length_take]; omega
    simp only [goodFrom, hGood, Bool.and_eq_true, decide_eq_true_eq]
    refine ⟨he, by omega, ⟨by rw [l1, l2]; omega, neS hna _ _, neS hnb _ _⟩, hs _ (by rw [l1]; omega)⟩
  · rw [if_neg c, List.nil_append]
    exact hs _ (by omega)
theorem goodFrom_weak : ∀ {s : List S28} {e e' : Int}, goodFrom e s = true → e' ≤ e → goodFrom e' s = true
  | [], _, _, _, _ => rfl
  | h :: s, e, e', hg, he => by
    simp only [goodFrom, Bool.and_eq_true, decide_eq_true_eq] at hg ⊢
    exact ⟨by omega, hg.2⟩
theorem mk_good (a b : List (List Int)) (hna : tokNE a = true) (hnb : tokNE b = true) (ha : a.length ≤ 30) : ∀ (l : List S54) (i j : Nat) (e : Int), rises a b l i j → e < (i : Int) → goodFrom e (mk a b l i j) = true
  | [], i, j, e, ⟨h1, h2⟩, he => by
    rw [mk, ← List.append_nil (mkHunk a b i a.length j b.length)]
    exact mkHunk_good a b hna hnb h1 h2 (Nat.le_refl _) (Nat.le_refl _) (by omega) he (fun _ _ => rfl)
  | p :: l, i, j, e, ⟨_, _, h3, h4, h5, h6, _, h8⟩, he => by
    rw [mk]
    exact mkHunk_good a b hna hnb h3 h4 (by omega) (by omega) (by omega) he (fun e' he' => goodFrom_weak (mk_good a b hna hnb ha l _ _ _ h8 (show ((p.f0.toNat : Nat) : Int) < ((p.f0.toNat + 1 : Nat) : Int) by omega)) he')
theorem mkHunk_fits (a b : List (List Int)) {i p j q : Nat} (hi : i ≤ p) (hp : p ≤ a.length) {s : List S28} (hs : fits s a = true) : fits (mkHunk a b i p j q ++ s) a = true := by
  unfold mkHunk
  split
  · have l1 : ((a.take p).drop i).length = p - i := by rw [List.length_drop, List.length_take]; omega
    simp only [List.singleton_append, fits, Bool.and_eq_true, decide_eq_true_eq, Int.toNat_natCast]
    refine ⟨by rw [l1]; omega, ?_, hs⟩
    rw [l1, List.drop_take]; exact tokEqs_refl _
  · rw [List.nil_append]; exact hs
theorem mk_fits (a b : List (List Int)) : ∀ (l : List S54) (i j : Nat), rises a b l i j → fits (mk a b l i j) a = true
  | [], i, j, ⟨h1, _⟩ => by
    rw [mk, ← List.append_nil (mkHunk a b i a.length j b.length)]
    exact mkHunk_fits a b h1 (Nat.le_refl _) rfl
  | p :: l, i, j, ⟨_, _, h3, _, h5, _, _, h8⟩ => by
    rw [mk]
    exact mkHunk_fits a b h3 (by omega) (mk_fits a b l _ _ h8)
theorem drop_cut (b : List (List Int)) {j q : Nat} (hj : j ≤ q) : b.drop j = (b.take q).drop j ++ b.drop q := by
  have : b.drop q = (b.drop j).drop (q - j) := by rw [List.drop_drop]; congr 1; omega
  rw [List.drop_take, this]; exact (List.take_append_drop _ _).symm
theorem mkHunk_out (a b : List (List Int)) {i p j q : Nat} (hi : i ≤ p) (hj : j ≤ q) (hp : p ≤ a.length) (hq : q ≤ b.length) {s : List S28} (hf : ∀ h ∈ s, p ≤ h.f0.toNat) (hs : tokEqs (appOut s a p) (b.drop q) = true) : tokEqs (appOut (mkHunk a b i p j q ++ s) a i) (b.drop j) = true := by
  unfold mkHunk
  have l1 : ((a.take p).drop i).length = p - i := by rw [List.length_drop, List.length_take]; omega
  rw [drop_cut b hj]
  by_cases c : p > i ∨ q > j
  · rw [if_pos c, List.singleton_append, appOut]
    simp only [Int.toNat_natCast]
    rw [l1, show i + (p - i) = p by omega, List.drop_eq_nil_of_le (show (a.take i).length ≤ i by rw [List.length_take]; omega), List.nil_append]
    exact tokEqs_append (tokEqs_refl _) hs
  · obtain rfl : i = p := by omega
    obtain rfl : j = q := by omega
    rw [if_neg c, List.nil_append, List.drop_eq_nil_of_le (show (b.take j).length ≤ j by rw [List.length_take]; omega), List.nil_append]
    exact hs
theorem mk_out (a b : List (List Int)) : ∀ (l : List S54) (i j : Nat), rises a b l i j → tokEqs (appOut (mk a b l i j) a i) (b.drop j) = true
  | [], i, j, ⟨h1, h2⟩ => by
    rw [mk, ← List.append_nil (mkHunk a b i a.length j b.length)]
    refine mkHunk_out a b h1 h2 (Nat.le_refl _) (Nat.le_refl _) (by simp) ?_
    rw [appOut, List.drop_length, List.drop_length]; rfl
  | p :: l, i, j, ⟨_, _, h3, h4, h5, h6, h7, h8⟩ => by
    rw [mk]
    have hf : ∀ h ∈ mk a b l (p.f0.toNat + 1) (p.f1.toNat + 1), p.f0.toNat + 1 ≤ h.f0.toNat := fun h hh => by have := mk_f0 a b l _ _ h8 h hh; omega
    refine mkHunk_out a b h3 h4 (by omega) (by omega) (fun h hh => by have := hf h hh; omega) ?_
    rw [appOut_from a _ (p.f0.toNat + 1) p.f0.toNat (by omega) (by omega) hf, drop_tok (show p.f1.toNat < b.length by omega)]
    have e1 : (a.take (p.f0.toNat + 1)).drop p.f0.toNat = [a.getD p.f0.toNat []] := by
      rw [List.drop_take, show p.f0.toNat + 1 - p.f0.toNat = 1 by omega, drop_tok (show p.f0.toNat < a.length by omega)]; rfl
    rw [e1, List.singleton_append, tokEqs, Bool.and_eq_true, beq_iff_eq]
    exact ⟨h7, mk_out a b l _ _ h8⟩
theorem mk_small (a b : List (List Int)) (ha : fewB a = true) (hb : fewB b = true) : ∀ (l : List S54) (i j : Nat), (mk a b l i j).length ≤ l.length + 1 ∧ ∀ h ∈ mk a b l i j, fewB h.f1 = true ∧ fewB h.f2 = true := by
  have hcut : ∀ (x : List (List Int)) (n i : Nat), fewB x = true → fewB ((x.take n).drop i) = true := fun x n i hx => by
    unfold fewB
    rw [Bool.and_eq_true]
    have h1 := fewB_len hx
    have h2 := cut_len x n i
    exact ⟨decide_eq_true (by omega), List.all_eq_true.2 fun t ht => decide_eq_true (fewB_tok hx t (List.mem_of_mem_take (List.mem_of_mem_drop ht)))⟩
  have hone : ∀ i p j q, (mkHunk a b i p j q).length ≤ 1 ∧ ∀ h ∈ mkHunk a b i p j q, fewB h.f1 = true ∧ fewB h.f2 = true := fun i p j q => by
    unfold mkHunk
    split
    · refine ⟨by simp, fun h hh => ?_⟩
      simp only [List.mem_singleton] at hh
      rw [hh]; exact ⟨hcut a _ _ ha, hcut b _ _ hb⟩
    · simp
  intro l
  induction l with
  | nil => intro i j; rw [mk]; exact ⟨(hone _ _ _ _).1, (hone _ _ _ _).2⟩
  | cons p l ih =>
    intro i j
    rw [mk]
    obtain ⟨h1, h2⟩ := ih (p.f0.toNat + 1) (p.f1.toNat + 1)
    obtain ⟨h3, h4⟩ := hone i p.f0.toNat j p.f1.toNat
    refine ⟨by rw [List.length_append, List.length_cons]; omega, fun h hh => ?_⟩
    rw [List.mem_append] at hh
    rcases hh with hh | hh
    · exact h4 h hh
    · exact h2 h hh

theorem idx_spec : ∀ {d : List (List Int)} {s : List UInt8} {m : Nat}, idx d s = some m → str (d.getD m []) = s
  | [], _, _, h => by cases h
  | u :: d, s, m, h => by
    rw [idx] at h
    by_cases c : str u = s
    · rw [if_pos c] at h
      obtain rfl := Option.some.inj h
      simpa using c
    · rw [if_neg c, Option.map_eq_some_iff] at h
      obtain ⟨n, hn, rfl⟩ := h
      simpa using idx_spec hn
theorem idOf_inj {d : List (List Int)} {s t : List Int} (hs : ∃ u ∈ d, str u = str s) (ht : ∃ u ∈ d, str u = str t) (h : idOf d s = idOf d t) : str s = str t := by
  obtain ⟨m, hm⟩ := idx_some hs
  obtain ⟨n, hn⟩ := idx_some ht
  unfold idOf at h
  rw [hm, hn] at h
  simp only [Option.getD_some, Int.natCast_inj] at h
  subst h
  rw [← idx_spec hm, ← idx_spec hn]
theorem rd_map (d a : List (List Int)) {p : Nat} (hp : p < a.length) : rd (a.map (idOf d)) (p : Int) = idOf d (a.getD p []) := by
  show (a.map (idOf d)).getD p 0 = _
  simp [List.getD_eq_getElem?_getD, hp]
theorem getD_mem {a : List (List Int)} {p : Nat} (hp : p < a.length) : a.getD p [] ∈ a := by
  rw [List.getD_eq_getElem?_getD, List.getElem?_eq_getElem hp]; exact List.getElem_mem hp
theorem rises_of_good (d a b : List (List Int)) (hd : ∀ x ∈ a ++ b, ∃ u ∈ d, str u = str x) : ∀ (l : List S54) (i j : Nat), i ≤ a.length → j ≤ b.length → good (a.map (idOf d)) (b.map (idOf d)) ((i : Int) - 1) ((j : Int) - 1) l = true → rises a b l i j
  | [], i, j, hi, hj, _ => ⟨hi, hj⟩
  | p :: l, i, j, hi, hj, hg => by
    rw [good_cons, okPair_iff, List.length_map, List.length_map] at hg
    obtain ⟨⟨h1, h2, h3, h4, h5, h6, h7⟩, h8⟩ := hg
    obtain ⟨p0, p1⟩ := p
    simp only at h1 h2 h3 h4 h5 h6 h7 h8
    obtain ⟨I, rfl⟩ := Int.eq_ofNat_of_zero_le h1
    obtain ⟨J, rfl⟩ := Int.eq_ofNat_of_zero_le h3
    refine ⟨h1, h3, ?_, ?_, ?_, ?_, ?_, ?_⟩
    · simp only [Int.toNat_natCast]; omega
    · simp only [Int.toNat_natCast]; omega
    · simp only [Int.toNat_natCast]; omega
    · simp only [Int.toNat_natCast]; omega
    · simp only [Int.toNat_natCast]
      rw [rd_map d a (by omega), rd_map d b (by omega)] at h5
      exact idOf_inj (hd _ (by rw [List.mem_append]; exact .inl (getD_mem (by omega)))) (hd _ (by rw [List.mem_append]; exact .inr (getD_mem (by omega)))) h5
    · simp only [Int.toNat_natCast]
      refine rises_of_good d a b hd l (I + 1) (J + 1) (by omega) (by omega) ?_
      rw [show ((I + 1 : Nat) : Int) - 1 = (I : Int) by omega, show ((J + 1 : Nat) : Int) - 1 = (J : Int) by omega]
      exact h8
theorem made_l0 (a b : List (List Int)) (ha : a.length ≤ 30) : ∀ (d p : Nat), p + d = a.length → ∀ k, tattinglaw25_PatchMade.l0 (k + d + 1) a b p = if tokNE (a.drop p) = true then tattinglaw25_PatchMade.l1 k a b 0 else some true := by
  intro d
  induction d with
  | zero =>
    intro p hp k
    rw [tattinglaw25_PatchMade.l0, if_neg (by omega), List.drop_eq_nil_of_le (by omega), if_pos (show tokNE [] = true from rfl)]
  | succ d ih =>
    intro p hp k
    have h4 := ih (p + 1) (by omega) k
    simp only [Int.natCast_add, Int.cast_ofNat_Int] at h4
    have e1 : tokNE (a.drop p) = (decide ((a.getD p []).length ≠ 0) && tokNE (a.drop (p + 1))) := by rw [drop_tok (show p < a.length by omega)]; rfl
    rw [show k + (d + 1) + 1 = (k + d + 1) + 1 by omega, tattinglaw25_PatchMade.l0, if_pos (by omega), if_pos (by omega), rd_tok, wr (by omega) (by omega), h4, e1]
    by_cases c : (a.getD p []).length = 0
    · rw [if_pos (by omega), decide_eq_false (by omega), Bool.false_and, if_neg (by decide)]
    · rw [if_neg (by omega), decide_eq_true c, Bool.true_and]
theorem made_l1 (a b : List (List Int)) (hb : b.length ≤ 30) : ∀ (d p : Nat), p + d = b.length → ∀ k, tattinglaw25_PatchMade.l1 (k + d + 1) a b p = if tokNE (b.drop p) = true then tattinglaw25_PatchMade.l1 (k + 1) a b (b.length : Nat) else some true := by
  intro d
  induction d with
  | zero =>
    intro p hp k
    obtain rfl : p = b.length := by omega
    rw [List.drop_length, if_pos (show tokNE [] = true from rfl)]
  | succ d ih =>
    intro p hp k
    have h4 := ih (p + 1) (by omega) k
    simp only [Int.natCast_add, Int.cast_ofNat_Int] at h4
    have e1 : tokNE (b.drop p) = (decide ((b.getD p []).length ≠ 0) && tokNE (b.drop (p + 1))) := by rw [drop_tok (show p < b.length by omega)]; rfl
    rw [show k + (d + 1) + 1 = (k + d + 1) + 1 by omega, tattinglaw25_PatchMade.l1, if_pos (by omega), if_pos (by omega), rd_tok, wr (by omega) (by omega), h4, e1]
    by_cases c : (b.getD p []).length = 0
    · rw [if_pos (by omega), decide_eq_false (by omega), Bool.false_and, if_neg (by decide)]
    · rw [if_neg (by omega), decide_eq_true c, Bool.true_and]
theorem awake_ok : tattinglaw25_awake.f 1002 = some true := by decide +kernel
theorem law_PatchMade (a b : List (List Int)) : ∃ k, tattinglaw25_PatchMade.f k a b = some true := by
  obtain ⟨K1, hK1⟩ : Ev (fun k => tattinglaw25_awake.f k) true := Ev.of (fun k => tattinglaw25_awake.mono k) awake_ok
  have hK1 : ∀ k, K1 ≤ k → tattinglaw25_awake.f k = some true := hK1
  by_cases ha : fewB a = true
  · by_cases hb : fewB b = true
    · have hla := fewB_len ha
      have hlb := fewB_len hb
      have hsa : short a := fewB_tok ha
      have hsb : short b := fewB_tok hb
      obtain ⟨d, hT, hd⟩ := two_eq a b (by omega) (by omega) hsa hsb 3000 (by omega)
      obtain ⟨K2, hK2⟩ : Ev (fun k => tattingref1_Two.f k a b) _ := Ev.of (fun k => tattingref1_Two.mono a b k) hT
      have hK2 : ∀ k, K2 ≤ k → tattingref1_Two.f k a b = some (a.map (idOf d), b.map (idOf d), (d.length : Int)) := hK2
      obtain ⟨l, hl⟩ := isLeast_ex (a.map (idOf d)) (b.map (idOf d)) _ 0 0 rfl
      obtain ⟨K3, hK3⟩ := tattingref7_Least_eq (a.map (idOf d)) (b.map (idOf d)) (by rw [List.length_map]; omega) (by rw [List.length_map]; omega) l hl
      have hK3 : ∀ k, K3 ≤ k → tattingref7_Least.f k (a.map (idOf d)) (b.map (idOf d)) = some l := hK3
      have hg := isLeast_good hl
      have hr : rises a b l 0 0 := rises_of_good d a b hd l 0 0 (by omega) (by omega) hg
      have hll := rises_len a b l 0 0 hr
      refine ⟨(K1 + K2 + K3 + 4000) + b.length + 1 + a.length + 1 + 1, ?_⟩
      unfold tattinglaw25_PatchMade.f
      rw [hK1 _ (by omega), bs, if_pos rfl, few_eq a _ (by omega), bs, if_pos ha, few_eq b _ (by omega), bs, hb, tattinglaw25_PatchMade.j0, if_neg (by decide)]
      have h0 := made_l0 a b hla a.length 0 (by omega) ((K1 + K2 + K3 + 4000) + b.length + 1)
      rw [List.drop_zero] at h0
      refine h0.trans ?_
      by_cases hna : tokNE a = true
      · rw [if_pos hna]
        have h1 := made_l1 a b hlb b.length 0 (by omega) (K1 + K2 + K3 + 4000)
        rw [List.drop_zero] at h1
        refine h1.trans ?_
        by_cases hnb : tokNE b = true
        · rw [if_pos hnb, tattinglaw25_PatchMade.l1, if_neg (by omega)]
          obtain ⟨m1, m2⟩ := mk_small a b ha hb l 0 0
          have hs : smallB (mk a b l 0 0) = true := by
            unfold smallB
            rw [Bool.and_eq_true]
            refine ⟨decide_eq_true (by omega), List.all_eq_true.2 fun x hx => ?_⟩
            rw [Bool.and_eq_true]; exact m2 x hx
          have hgd := mk_good a b hna hnb hla l 0 0 (-1) hr (by omega)
          have hft := mk_fits a b l 0 0 hr
          have hout := mk_out a b l 0 0 hr
          rw [List.drop_zero] at hout
          have hM : tattingref24_Make.f (K1 + K2 + K3 + 4000) a b l = some (mk a b l 0 0, 0) := by
            have hG := tattingref7_Good_eq (a.map (idOf d)) (b.map (idOf d)) l (by rw [List.length_map]; omega) (by rw [List.length_map]; omega) (by omega) (K1 + K2 + K3 + 4000) (by omega)
            have hg2 : good (a.map (idOf d)) (b.map (idOf d)) (-1) (-1) l = true := hg
            unfold tattingref24_Make.f
            rw [hK2 _ (by omega), bs, hG, bs, if_pos hg2]
            have := make_l0 a b hla hlb l (by omega) l.length (K1 + K2 + K3 + 4000) 0 [] 0 0 (by omega) (by omega) (by rw [List.drop_zero]; exact hr) (by simp)
            rw [List.drop_zero, List.nil_append] at this
            exact this
          generalize mk a b l 0 0 = s at hs hgd hft hout hM
          have hP : pApp s a = (appOut s a 0, 0) := by unfold pApp; rw [if_pos hgd, if_pos hft]
          have h2 := fits_le a s 0 0 hs hft (good_nonneg s _ (by omega) hgd) (by omega)
          have hsl := smallB_len hs
          have h3 : ∀ x ∈ invMap s 0, x.f0 ≤ 1048576 := fun x hx => by have := h2 x hx; omega
          have hI : pInv s = (invMap s 0, 0) := by unfold pInv; rw [if_pos hgd, invFrom_some s [] 0 h3]; rfl
          have h4 := invMap_good s 0 (-1) hgd h3
          rw [show (-1 : Int) + 0 = -1 by omega] at h4
          obtain ⟨h5, h6⟩ := appFits_back2 a b s 0 0 0 (-1) hgd (by omega) (by omega) (by omega) hft (by omega) (by omega) (by rw [List.drop_zero]; exact tokEqs_symm hout)
          rw [List.drop_zero] at h6
          have hQ : pApp (invMap s 0) b = (appOut (invMap s 0) b 0, 0) := by unfold pApp; rw [if_pos h4, if_pos h5]
          have hlo := tokEqs_length hout
          have hl6 := tokEqs_length h6
          rw [hK2 _ (by omega), bs, hK3 _ (by omega), bs, hM, bs, patchApp_eq s a hs (by omega) hsa _ (by omega), bs, patchInv_eq s hs _ (by omega), bs, hI, patchApp_eq _ b (invMap_small hs 0) (by omega) hsb _ (by omega), bs, hP, hQ, if_pos rfl, if_pos rfl, if_pos rfl, sameToks_eqs hout (by omega) _ (by omega), bs, if_pos rfl, sameToks_eqs h6 (by omega) _ (by omega)]; rfl
        · rw [if_neg hnb]
      · rw [if_neg hna]
    · refine ⟨K1 + 4000 + 1, ?_⟩
      unfold tattinglaw25_PatchMade.f
      rw [hK1 _ (by omega), bs, if_pos rfl, few_eq a _ (by omega), bs, if_pos ha, few_eq b _ (by omega), bs, Bool.eq_false_iff.2 hb, tattinglaw25_PatchMade.j0, if_pos (by decide)]
  · refine ⟨K1 + 4000 + 1, ?_⟩
    unfold tattinglaw25_PatchMade.f
    rw [hK1 _ (by omega), bs, if_pos rfl, few_eq a _ (by omega), bs, if_neg ha, tattinglaw25_PatchMade.j0, if_pos rfl]

end Go.Proofs.Ytlodaoijokfblaa.Pure
