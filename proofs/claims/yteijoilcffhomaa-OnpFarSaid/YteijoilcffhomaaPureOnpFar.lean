/- Of every two lists, at every cost, how far one comes on each diagonal. -/
import Derived.Test.YteijoilcffhomaaPOnpFarx7
import Derived.Test.YteijoilcffhomaaWSized
namespace Go.Proofs.Yteijoilcffhomaa.Pure
open Go.RowKit Go.Proofs.Yteijoilcffhomaa.POnpFar Go.Proofs.YteijoilcffhomaaW.PrintWords Go.Proofs.YteijoilcffhomaaW.PrintLast Go.Proofs.YteijoilcffhomaaW.PrintMore
set_option linter.unusedVariables false
set_option linter.unusedSimpArgs false

/-! Words for the pure side: whole numbers that do not wrap, reads of lists. -/
theorem wr {x : Int} (h : -9223372036854775808 ≤ x) (h' : x < 9223372036854775808) : wrap64 x = x := by unfold wrap64; omega
theorem rd_nat (xs : List Int) (n : Nat) : rd xs (n : Int) = xs.getD n 0 := rfl
theorem rd_at {xs : List Int} {i : Int} {n : Nat} (h : i = (n : Int)) : rd xs i = xs.getD n 0 := by subst h; rfl
theorem drop_getD {xs : List Int} {i : Nat} (h : i < xs.length) : xs.drop i = xs.getD i 0 :: xs.drop (i + 1) := by
  rw [List.drop_eq_getElem_cons h]; simp [List.getD_eq_getElem?_getD, h]
theorem take_getD {xs : List Int} {i : Nat} (h : i < xs.length) : xs.take (i + 1) = xs.take i ++ [xs.getD i 0] := by
  rw [List.take_succ_eq_append_getElem h]; simp [List.getD_eq_getElem?_getD, h]

theorem lz_bind {α β : Type} {a a' : Option α} {f : α → Option β} (h : a = a') : a.bind f = a'.bind f := by rw [h]
theorem lz_ite {α : Type} {c c' : Prop} [s : Decidable c] [s' : Decidable c'] {t e : α} (h : c = c') : ite c t e = ite c' t e := by
  subst h; rw [Subsingleton.elim s s']
attribute [local congr] lz_bind lz_ite
theorem bs {α β : Type} (a : α) (f : α → Option β) : (some a).bind f = f a := by simp
theorem itt {α : Type} (t e : α) : (if (true = true) then t else e) = t := by simp
theorem ift {α : Type} (t e : α) : (if (false = true) then t else e) = e := by simp
theorem ifT {α : Type} (t e : α) : (if True then t else e) = t := by simp
theorem ifF {α : Type} (t e : α) : (if False then t else e) = e := by simp

theorem u8_wf {x : Int} (h : (Lit.int .u8 x).wf = true) : 0 ≤ x ∧ x < 256 := by
  have h' := h
  simp only [Lit.wf, Bool.and_eq_true, decide_eq_true_eq] at h'
  have e1 : IntKind.u8.min = 0 := by rfl
  have e2 : IntKind.u8.max = 255 := by rfl
  rw [e1, e2] at h'
  omega
theorem i64_wf {x : Int} (h : (Lit.int .i64 x).wf = true) : -9223372036854775808 ≤ x ∧ x < 9223372036854775808 := by
  have h' := h
  simp only [Lit.wf, Bool.and_eq_true, decide_eq_true_eq] at h'
  have e1 : IntKind.i64.min = -9223372036854775808 := by decide
  have e2 : IntKind.i64.max = 9223372036854775807 := by decide
  rw [e1, e2] at h'
  omega
theorem tmod_nat (x n : Nat) : Int.tmod (x : Int) (n : Int) = ((x % n : Nat) : Int) := by
  rw [Int.tmod_eq_emod_of_nonneg (by omega)]; exact (Int.natCast_emod _ _).symm
/-- A number within a list's places and its end. -/
theorem place (x : Int) (n : Nat) (h : 0 ≤ x ∧ x < 256) (hn : n ≤ 1000000) : ∃ p : Nat, p ≤ n ∧ Int.tmod (wrap64 x) (wrap64 ((n : Int) + 1)) = p := by
  obtain ⟨y, rfl⟩ := Int.eq_ofNat_of_zero_le h.1
  rw [wr (by omega) (by omega), wr (by omega) (by omega)]
  refine ⟨y % (n + 1), by have := Nat.mod_lt y (show 0 < n + 1 by omega); omega, ?_⟩
  have := tmod_nat y (n + 1)
  simpa using this

/-! The longest common subsequence of two lists of whole numbers: no program in sight. -/

def lcs : List Int → List Int → Nat
  | [], _ => 0
  | _ :: _, [] => 0
  | a :: xt, b :: yt => if a = b then lcs xt yt + 1 else max (lcs xt (b :: yt)) (lcs (a :: xt) yt)
termination_by xs ys => xs.length + ys.length

@[simp] theorem lcs_nil_left (ys : List Int) : lcs [] ys = 0 := by cases ys <;> simp [lcs]
@[simp] theorem lcs_nil_right (xs : List Int) : lcs xs [] = 0 := by cases xs <;> simp [lcs]
theorem lcs_cons (a b : Int) (xt yt : List Int) : lcs (a :: xt) (b :: yt) = if a = b then lcs xt yt + 1 else max (lcs xt (b :: yt)) (lcs (a :: xt) yt) := by
  rw [lcs]

theorem lcs_ub (xs ys : List Int) : ∀ s : List Int, s.Sublist xs → s.Sublist ys → s.length ≤ lcs xs ys := by
  induction xs, ys using lcs.induct with
  | case1 ys => intro s h _; simp at h; subst h; simp
  | case2 a xt => intro s _ h; simp at h; subst h; simp
  | case3 xt b yt ih =>
    intro s h1 h2
    rw [lcs_cons, if_pos rfl]
    cases s with
    | nil => simp
    | cons c s =>
      have h1' : s.Sublist xt := by
        cases h1 with
        | cons _ h => exact (List.sublist_cons_self c s).trans h
        | cons_cons _ h => exact h
      have h2' : s.Sublist yt := by
        cases h2 with
        | cons _ h => exact (List.sublist_cons_self c s).trans h
        | cons_cons _ h => exact h
      have := ih s h1' h2'
      simp; omega
  | case4 a xt b yt hne ih1 ih2 =>
    intro s h1 h2
    rw [lcs_cons, if_neg hne]
    cases s with
    | nil => simp
    | cons c s =>
      by_cases hc : c = a
      · subst hc
        have h2' : (c :: s).Sublist yt := by
          cases h2 with
          | cons _ h => exact h
          | cons_cons _ h => exact absurd rfl hne
        have := ih2 _ h1 h2'
        omega
      · have h1' : (c :: s).Sublist xt := by
          cases h1 with
          | cons _ h => exact h
          | cons_cons _ h => exact absurd rfl hc
        have := ih1 _ h1' h2
        omega

theorem lcs_ex (xs ys : List Int) : ∃ s : List Int, s.Sublist xs ∧ s.Sublist ys ∧ s.length = lcs xs ys := by
  induction xs, ys using lcs.induct with
  | case1 ys => exact ⟨[], by simp⟩
  | case2 a xt => exact ⟨[], by simp⟩
  | case3 xt b yt ih =>
    obtain ⟨s, h1, h2, h3⟩ := ih
    exact ⟨b :: s, h1.cons_cons b, h2.cons_cons b, by rw [lcs_cons, if_pos rfl]; simp [h3]⟩
  | case4 a xt b yt hne ih1 ih2 =>
    rw [lcs_cons, if_neg hne]
    by_cases h : lcs (a :: xt) yt ≤ lcs xt (b :: yt)
    · obtain ⟨s, h1, h2, h3⟩ := ih1
      exact ⟨s, h1.cons a, h2, by omega⟩
    · obtain ⟨s, h1, h2, h3⟩ := ih2
      exact ⟨s, h1, h2.cons b, by omega⟩

theorem lcs_unique {xs ys : List Int} {n : Nat} (h : ∃ s : List Int, s.Sublist xs ∧ s.Sublist ys ∧ s.length = n) (h' : ∀ s : List Int, s.Sublist xs → s.Sublist ys → s.length ≤ n) : lcs xs ys = n := by
  obtain ⟨s, h1, h2, h3⟩ := h
  obtain ⟨t, h4, h5, h6⟩ := lcs_ex xs ys
  have := lcs_ub xs ys s h1 h2
  have := h' t h4 h5
  omega

theorem lcs_comm (xs ys : List Int) : lcs xs ys = lcs ys xs := by
  obtain ⟨s, h1, h2, h3⟩ := lcs_ex ys xs
  exact lcs_unique ⟨s, h2, h1, h3⟩ fun t a b => lcs_ub ys xs t b a

theorem lcs_reverse (xs ys : List Int) : lcs xs.reverse ys.reverse = lcs xs ys := by
  obtain ⟨s, h1, h2, h3⟩ := lcs_ex xs ys
  refine lcs_unique ⟨s.reverse, h1.reverse, h2.reverse, by simp [h3]⟩ fun t a b => ?_
  have := lcs_ub xs ys t.reverse (by simpa using a.reverse) (by simpa using b.reverse)
  simpa using this

theorem lcs_mono {xs xs' ys ys' : List Int} (h : xs.Sublist xs') (h' : ys.Sublist ys') : lcs xs ys ≤ lcs xs' ys' := by
  obtain ⟨s, h1, h2, h3⟩ := lcs_ex xs ys
  have := lcs_ub xs' ys' s (h1.trans h) (h2.trans h')
  omega

theorem lcs_le_left (xs ys : List Int) : lcs xs ys ≤ xs.length := by
  obtain ⟨s, h1, _, h3⟩ := lcs_ex xs ys
  have := h1.length_le
  omega
theorem lcs_le_right (xs ys : List Int) : lcs xs ys ≤ ys.length := by rw [lcs_comm]; exact lcs_le_left _ _

theorem lcs_self (xs : List Int) : lcs xs xs = xs.length := by
  have := lcs_ub xs xs xs (List.Sublist.refl _) (List.Sublist.refl _)
  have := lcs_le_left xs xs
  omega

theorem lcs_cons_same (a : Int) (xs ys : List Int) : lcs (a :: xs) (a :: ys) = lcs xs ys + 1 := by rw [lcs_cons, if_pos rfl]

theorem lcs_cons_le (a : Int) (xs ys : List Int) : lcs (a :: xs) ys ≤ lcs xs ys + 1 := by
  obtain ⟨s, h1, h2, h3⟩ := lcs_ex (a :: xs) ys
  cases s with
  | nil => simp at h3; omega
  | cons c s =>
    have h1' : s.Sublist xs := by
      cases h1 with
      | cons _ h => exact (List.sublist_cons_self c s).trans h
      | cons_cons _ h => exact h
    have := lcs_ub xs ys s h1' ((List.sublist_cons_self c s).trans h2)
    simp at h3; omega
theorem lcs_cons_le_right (b : Int) (xs ys : List Int) : lcs xs (b :: ys) ≤ lcs xs ys + 1 := by
  rw [lcs_comm, lcs_comm xs ys]; exact lcs_cons_le b ys xs

theorem lcs_snoc_same (a : Int) (xs ys : List Int) : lcs (xs ++ [a]) (ys ++ [a]) = lcs xs ys + 1 := by
  rw [← lcs_reverse, ← lcs_reverse xs ys]; simp [lcs_cons_same]
theorem lcs_snoc (a b : Int) (xs ys : List Int) : lcs (xs ++ [a]) (ys ++ [b]) = if a = b then lcs xs ys + 1 else max (lcs xs (ys ++ [b])) (lcs (xs ++ [a]) ys) := by
  rw [← lcs_reverse, ← lcs_reverse xs ys, ← lcs_reverse xs (ys ++ [b]), ← lcs_reverse (xs ++ [a]) ys]
  simp [lcs_cons]
theorem lcs_snoc_le (a : Int) (xs ys : List Int) : lcs (xs ++ [a]) ys ≤ lcs xs ys + 1 := by
  rw [← lcs_reverse, ← lcs_reverse xs ys]; simp only [List.reverse_append, List.reverse_cons, List.reverse_nil, List.nil_append, List.singleton_append]; exact lcs_cons_le _ _ _

/-- Cut both lists anywhere: never more together. -/
theorem lcs_append_ge (xs xs' ys ys' : List Int) : lcs xs ys + lcs xs' ys' ≤ lcs (xs ++ xs') (ys ++ ys') := by
  obtain ⟨s, h1, h2, h3⟩ := lcs_ex xs ys
  obtain ⟨t, h4, h5, h6⟩ := lcs_ex xs' ys'
  have := lcs_ub (xs ++ xs') (ys ++ ys') (s ++ t) (h1.append h4) (h2.append h5)
  simp at this; omega

theorem sublist_append_split {s xs ys : List Int} (h : s.Sublist (xs ++ ys)) : ∃ s1 s2, s = s1 ++ s2 ∧ s1.Sublist xs ∧ s2.Sublist ys := by
  obtain ⟨l1, l2, rfl, h1, h2⟩ := List.sublist_append_iff.1 h
  exact ⟨l1, l2, rfl, h1, h2⟩

/-- Cut the first list: somewhere in the second one both together are just xt much. -/
theorem lcs_cut (xs xs' ys : List Int) : ∃ j, j ≤ ys.length ∧ lcs (xs ++ xs') ys = lcs xs (ys.take j) + lcs xs' (ys.drop j) := by
  obtain ⟨s, h1, h2, h3⟩ := lcs_ex (xs ++ xs') ys
  obtain ⟨s1, s2, rfl, h4, h5⟩ := sublist_append_split h1
  obtain ⟨l1, l2, rfl, h6, h7⟩ := List.append_sublist_iff.1 h2
  refine ⟨l1.length, by simp, ?_⟩
  have a1 := lcs_ub xs l1 s1 h4 h6
  have a2 := lcs_ub xs' l2 s2 h5 h7
  have a3 := lcs_append_ge xs xs' l1 l2
  simp only [List.take_left, List.drop_left]
  simp at h3; omega

/-- The same ahead of both: xt much more. -/
theorem lcs_prefix (p xs ys : List Int) : lcs (p ++ xs) (p ++ ys) = p.length + lcs xs ys := by
  induction p with
  | nil => simp
  | cons a p ih => simp only [List.cons_append, lcs_cons_same, ih, List.length_cons]; omega
theorem lcs_suffix (p xs ys : List Int) : lcs (xs ++ p) (ys ++ p) = p.length + lcs xs ys := by
  rw [← lcs_reverse, ← lcs_reverse xs ys]; simp [lcs_prefix]

/-- The distance. -/
def dist (xs ys : List Int) : Nat := xs.length + ys.length - 2 * lcs xs ys
theorem dist_add (xs ys : List Int) : dist xs ys + 2 * lcs xs ys = xs.length + ys.length := by
  have := lcs_le_left xs ys
  have := lcs_le_right xs ys
  unfold dist; omega
theorem dist_comm (xs ys : List Int) : dist xs ys = dist ys xs := by
  have := dist_add xs ys
  have := dist_add ys xs
  have := lcs_comm xs ys
  omega
theorem lcs_full {xs ys : List Int} (h : lcs xs ys = xs.length) (h' : lcs xs ys = ys.length) : xs = ys := by
  obtain ⟨s, h1, h2, h3⟩ := lcs_ex xs ys
  have e1 := h1.eq_of_length (by omega)
  have e2 := h2.eq_of_length (by omega)
  rw [← e1, ← e2]
theorem dist_zero_iff (xs ys : List Int) : dist xs ys = 0 ↔ xs = ys := by
  constructor
  · intro h
    have := dist_add xs ys
    have := lcs_le_left xs ys
    have := lcs_le_right xs ys
    exact lcs_full (by omega) (by omega)
  · rintro rfl
    have := dist_add xs xs
    have := lcs_self xs
    omega

/-- Two parts of one list have at least so much in common. -/
theorem sublist_both : ∀ (z s t : List Int), s.Sublist z → t.Sublist z → ∃ u : List Int, u.Sublist s ∧ u.Sublist t ∧ s.length + t.length ≤ z.length + u.length := by
  intro z
  induction z with
  | nil => intro s t h1 h2; simp at h1 h2; subst h1; subst h2; exact ⟨[], by simp⟩
  | cons c z ih =>
    intro s t h1 h2
    cases h1 with
    | cons _ h1 =>
      cases h2 with
      | cons _ h2 => obtain ⟨u, a, b, l⟩ := ih s t h1 h2; exact ⟨u, a, b, by simp; omega⟩
      | cons_cons _ h2 => rename_i t; obtain ⟨u, a, b, l⟩ := ih s t h1 h2; exact ⟨u, a, b.cons _, by simp; omega⟩
    | cons_cons _ h1 =>
      rename_i s
      cases h2 with
      | cons _ h2 => obtain ⟨u, a, b, l⟩ := ih s t h1 h2; exact ⟨u, a.cons _, b, by simp; omega⟩
      | cons_cons _ h2 => rename_i t; obtain ⟨u, a, b, l⟩ := ih s t h1 h2; exact ⟨c :: u, a.cons_cons _, b.cons_cons _, by simp; omega⟩
theorem dist_triangle (xs zs ys : List Int) : dist xs ys ≤ dist xs zs + dist zs ys := by
  obtain ⟨s, h1, h2, h3⟩ := lcs_ex xs zs
  obtain ⟨t, h4, h5, h6⟩ := lcs_ex zs ys
  obtain ⟨u, a, b, l⟩ := sublist_both zs s t h2 h4
  have := lcs_ub xs ys u (a.trans h1) (b.trans h5)
  have := dist_add xs ys
  have := dist_add xs zs
  have := dist_add zs ys
  omega


/-! Lists told place by place. -/
def seq {α : Type} (n : Nat) (F : Nat → α) : List α := (List.range n).map F
def upd {α : Type} (F : Nat → α) (i : Nat) (v : α) : Nat → α := fun j => if j = i then v else F j
theorem upd_same {α : Type} (F : Nat → α) (i : Nat) (v : α) : upd F i v i = v := by simp [upd]
theorem upd_ne {α : Type} (F : Nat → α) {i j : Nat} (v : α) (h : j ≠ i) : upd F i v j = F j := by simp [upd, h]
theorem seq_length {α : Type} (n : Nat) (F : Nat → α) : (seq n F).length = n := by simp [seq]
theorem seq_getD {α : Type} {n : Nat} (F : Nat → α) {i : Nat} (h : i < n) (d : α) : (seq n F).getD i d = F i := by simp [seq, h, List.getD_eq_getElem?_getD]
theorem seq_getElem {α : Type} {n : Nat} (F : Nat → α) {i : Nat} (h : i < (seq n F).length) : (seq n F)[i] = F i := by simp [seq]
theorem seq_ext {α : Type} {n : Nat} {F G : Nat → α} (h : ∀ i, i < n → F i = G i) : seq n F = seq n G := by
  unfold seq; exact List.map_congr_left fun i hi => h i (List.mem_range.1 hi)
theorem seq_set {α : Type} {n : Nat} (F : Nat → α) (i : Nat) (v : α) : (seq n F).set i v = seq n (upd F i v) := by
  apply List.ext_getElem
  · simp [seq_length]
  · intro j h1 h2
    rw [List.getElem_set, seq_getElem, seq_getElem]
    unfold upd
    by_cases h : i = j
    · rw [if_pos h, if_pos h.symm]
    · rw [if_neg h, if_neg (fun e => h e.symm)]
theorem seq_const {α : Type} (n : Nat) (v : α) : List.replicate n v = seq n (fun _ => v) := by
  apply List.ext_getElem
  · simp [seq_length]
  · intro j h1 h2; simp [seq]
theorem seq_snoc {α : Type} (n : Nat) (F : Nat → α) : seq (n + 1) F = seq n F ++ [F n] := by simp [seq, List.range_succ]
theorem seq_of {α : Type} (xs : List α) (d : α) : xs = seq xs.length (fun i => xs.getD i d) := by
  apply List.ext_getElem
  · simp [seq_length]
  · intro j h1 h2; rw [seq_getElem]; simp [List.getD_eq_getElem?_getD, h1]
theorem seq_inj {α : Type} {n : Nat} {F G : Nat → α} (h : seq n F = seq n G) : ∀ i, i < n → F i = G i := by
  intro i hi
  have := congrArg (fun l => l[i]?) h
  simpa [seq, hi] using this
theorem rd_seq {n : Nat} (F : Nat → Int) {i : Int} {p : Nat} (h : p < n) (e : i = (p : Int)) : rd (seq n F) i = F p := by
  subst e; rw [rd_nat, seq_getD F h]

theorem rd_L2_seq {n : Nat} (F : Nat → List Int) {i : Int} {p : Nat} (h : p < n) (e : i = (p : Int)) : rd_L2 (seq n F) i = F p := by
  subst e; unfold rd_L2; rw [Int.toNat_natCast, seq_getD F h]

/-- What both lists have in common behind two places. -/
def T (a b : List Int) (i j : Nat) : Nat := lcs (a.drop i) (b.drop j)
theorem T_out_left {a b : List Int} {i j : Nat} (h : a.length ≤ i) : T a b i j = 0 := by unfold T; rw [List.drop_eq_nil_of_le h]; simp
theorem T_out_right {a b : List Int} {i j : Nat} (h : b.length ≤ j) : T a b i j = 0 := by unfold T; rw [List.drop_eq_nil_of_le h]; simp
theorem T_step {a b : List Int} {i j : Nat} (h : i < a.length) (h' : j < b.length) : T a b i j = if a.getD i 0 = b.getD j 0 then T a b (i + 1) (j + 1) + 1 else max (T a b (i + 1) j) (T a b i (j + 1)) := by
  unfold T; rw [drop_getD h, drop_getD h', lcs_cons]
theorem T_le_left (a b : List Int) (i j : Nat) : T a b i j ≤ a.length - i := by have := lcs_le_left (a.drop i) (b.drop j); unfold T; simpa using this
theorem T_le_right (a b : List Int) (i j : Nat) : T a b i j ≤ b.length - j := by have := lcs_le_right (a.drop i) (b.drop j); unfold T; simpa using this
theorem T_zero (a b : List Int) : T a b 0 0 = lcs a b := rfl
theorem T_down (a b : List Int) (i j : Nat) : T a b (i + 1) j ≤ T a b i j := by
  unfold T; refine lcs_mono ?_ (List.Sublist.refl _)
  rw [← List.drop_drop]; exact List.drop_sublist _ _
theorem T_right (a b : List Int) (i j : Nat) : T a b i (j + 1) ≤ T a b i j := by
  unfold T; refine lcs_mono (List.Sublist.refl _) ?_
  rw [← List.drop_drop]; exact List.drop_sublist _ _
/-- The whole table. -/
def behind (a b : List Int) : List (List Int) := seq (a.length + 1) fun i => seq (b.length + 1) fun j => (T a b i j : Int)

/-- What both lists have in common ahead of two places. -/
def H (a b : List Int) (i j : Nat) : Nat := lcs (a.take i) (b.take j)
theorem H_zero_left (a b : List Int) (j : Nat) : H a b 0 j = 0 := by unfold H; simp
theorem H_zero_right (a b : List Int) (i : Nat) : H a b i 0 = 0 := by unfold H; simp
theorem H_step {a b : List Int} {i j : Nat} (h : i < a.length) (h' : j < b.length) : H a b (i + 1) (j + 1) = if a.getD i 0 = b.getD j 0 then H a b i j + 1 else max (H a b i (j + 1)) (H a b (i + 1) j) := by
  unfold H; rw [take_getD h, take_getD h', lcs_snoc]
theorem H_le_left (a b : List Int) (i j : Nat) : H a b i j ≤ a.length := by have := lcs_le_left (a.take i) (b.take j); unfold H; simp at this; omega
theorem H_le_i (a b : List Int) (i j : Nat) : H a b i j ≤ i := by have := lcs_le_left (a.take i) (b.take j); unfold H; simp at this; omega
theorem H_le_j (a b : List Int) (i j : Nat) : H a b i j ≤ j := by have := lcs_le_right (a.take i) (b.take j); unfold H; simp at this; omega
theorem H_down (a b : List Int) (i j : Nat) : H a b i j ≤ H a b (i + 1) j := by
  unfold H
  exact lcs_mono (by rw [show a.take i = (a.take (i + 1)).take i by rw [List.take_take]; congr 1; omega]; exact List.take_sublist _ _) (List.Sublist.refl _)
theorem H_right (a b : List Int) (i j : Nat) : H a b i j ≤ H a b i (j + 1) := by
  unfold H
  exact lcs_mono (List.Sublist.refl _) (by rw [show b.take j = (b.take (j + 1)).take j by rw [List.take_take]; congr 1; omega]; exact List.take_sublist _ _)
theorem H_all (a b : List Int) : H a b a.length b.length = lcs a b := by unfold H; simp
def ahead (a b : List Int) : List (List Int) := seq (a.length + 1) fun i => seq (b.length + 1) fun j => (H a b i j : Int)

/-- How many furthest points there are at most. -/
def mostOf (w d : Int) : Int := ((d - w) / 2 + 1) * (w + (d - w) / 2 + 1)
theorem tmod_two {x : Int} (h : 0 ≤ x) : Int.tmod x 2 = x % 2 := Int.tmod_eq_emod_of_nonneg h
theorem tdiv_two {x : Int} (h : 0 ≤ x) : Int.tdiv x 2 = x / 2 := Int.tdiv_eq_ediv_of_nonneg h
theorem most_small {w d : Int} (hw : 0 ≤ w) (hw' : w ≤ 1048576) (h1 : w ≤ d) (h2 : d ≤ 2097152) : 0 ≤ mostOf w d ∧ mostOf w d ≤ 9000000000000 := by
  unfold mostOf
  have a1 : 0 ≤ (d - w) / 2 := by omega
  have a2 : (d - w) / 2 ≤ 1048576 := by omega
  generalize (d - w) / 2 = q at a1 a2
  constructor
  · exact Int.mul_nonneg (by omega) (by omega)
  · have : (q + 1) * (w + q + 1) ≤ 2000000 * 4000000 := Int.mul_le_mul (by omega) (by omega) (by omega) (by omega)
    omega
def onpMost (n m d : Int) : Int := if n < 0 ∨ 1048576 < n ∨ m < 0 ∨ 1048576 < m then 0 else if d < mx (n - m) (m - n) then 0 else if n + m < d then 0 else if (d - mx (n - m) (m - n)) % 2 = 0 then mostOf (mx (n - m) (m - n)) d else 0

/-! The furthest points, in plain words. -/
theorem H_down1 {x : List Int} (y : List Int) {i : Nat} (hi : i < x.length) (j : Nat) : H x y (i + 1) j ≤ H x y i j + 1 := by
  unfold H; rw [take_getD hi]; exact lcs_snoc_le _ _ _
theorem H_right1 (x : List Int) {y : List Int} (i : Nat) {j : Nat} (hj : j < y.length) : H x y i (j + 1) ≤ H x y i j + 1 := by
  unfold H; rw [take_getD hj, lcs_comm, lcs_comm (x.take i)]; exact lcs_snoc_le _ _ _
/-- How many of the first list's numbers go, at least, up to two places. -/
def V (x y : List Int) (i j : Nat) : Int := (i : Int) - H x y i j
theorem V_nonneg (x y : List Int) (i j : Nat) : 0 ≤ V x y i j := by have := H_le_i x y i j; unfold V; omega
theorem V_ge (x y : List Int) (i j : Nat) : (i : Int) - j ≤ V x y i j := by have := H_le_j x y i j; unfold V; omega
theorem V_left (x y : List Int) (j : Nat) : V x y 0 j = 0 := by unfold V; rw [H_zero_left]; rfl
theorem V_top (x y : List Int) (i : Nat) : V x y i 0 = i := by unfold V; rw [H_zero_right]; omega
theorem V_down (x y : List Int) {i : Nat} (hi : i < x.length) (j : Nat) : V x y i j ≤ V x y (i + 1) j ∧ V x y (i + 1) j ≤ V x y i j + 1 := by
  have := H_down x y i j
  have := H_down1 y hi j
  unfold V; omega
theorem V_right (x y : List Int) (i : Nat) {j : Nat} (hj : j < y.length) : V x y i (j + 1) ≤ V x y i j ∧ V x y i j ≤ V x y i (j + 1) + 1 := by
  have := H_right x y i j
  have := H_right1 x i hj
  unfold V; omega
theorem V_same {x y : List Int} {i j : Nat} (hi : i < x.length) (hj : j < y.length) (h : x.getD i 0 = y.getD j 0) : V x y (i + 1) (j + 1) = V x y i j := by
  have := H_step hi hj
  rw [if_pos h] at this
  unfold V; omega
theorem V_other {x y : List Int} {i j : Nat} (hi : i < x.length) (hj : j < y.length) (h : ¬ x.getD i 0 = y.getD j 0) : V x y (i + 1) (j + 1) = V x y i (j + 1) + 1 ∨ V x y (i + 1) (j + 1) = V x y (i + 1) j := by
  have := H_step hi hj
  rw [if_neg h] at this
  unfold V
  rcases Nat.le_total (H x y i (j + 1)) (H x y (i + 1) j) with h1 | h1
  · rw [Nat.max_eq_right h1] at this; omega
  · rw [Nat.max_eq_left h1] at this; omega
theorem V_diag {x y : List Int} {i j : Nat} (hi : i < x.length) (hj : j < y.length) : V x y i j ≤ V x y (i + 1) (j + 1) := by
  by_cases h : x.getD i 0 = y.getD j 0
  · rw [V_same hi hj h]; exact Int.le_refl _
  · have := V_down x y hi j
    have := V_right x y i hj
    rcases V_other hi hj h with h | h <;> omega
theorem V_diag_all {x y : List Int} (d : Nat) : ∀ {i j : Nat}, i + d ≤ x.length → j + d ≤ y.length → V x y i j ≤ V x y (i + d) (j + d) := by
  induction d with
  | zero => intro i j _ _; exact Int.le_refl _
  | succ d ih =>
    intro i j hi hj
    have h1 := ih (i := i) (j := j) (by omega) (by omega)
    have h2 := V_diag (x := x) (y := y) (i := i + d) (j := j + d) (by omega) (by omega)
    rw [← Nat.add_assoc, ← Nat.add_assoc]; omega
theorem V_down_all {x : List Int} (y : List Int) (j d : Nat) : ∀ {i : Nat}, i + d ≤ x.length → V x y (i + d) j ≤ V x y i j + d := by
  induction d with
  | zero => intro i _; simp
  | succ d ih =>
    intro i hi
    have h1 := ih (i := i) (by omega)
    have h2 := (V_down x y (i := i + d) (by omega) j).2
    rw [← Nat.add_assoc]; omega
theorem V_right_all (x : List Int) {y : List Int} (i d : Nat) : ∀ {j : Nat}, j + d ≤ y.length → V x y i (j + d) ≤ V x y i j := by
  induction d with
  | zero => intro j _; exact Int.le_refl _
  | succ d ih =>
    intro j hj
    have h1 := ih (j := j) (by omega)
    have h2 := (V_right x y i (j := j + d) (by omega)).1
    rw [← Nat.add_assoc]; omega
theorem V_down_same {x y : List Int} : ∀ (d : Nat) {i j : Nat}, x.length - i = d → V x y (i + H.down x y i j) (j + H.down x y i j) = V x y i j := by
  intro d
  induction d with
  | zero =>
    intro i j hd
    rw [H.down_out (.inl (by omega))]; rfl
  | succ d ih =>
    intro i j hd
    by_cases hj : j < y.length
    · rw [H.down_step (by omega) hj]
      split
      · next h =>
        have := ih (i := i + 1) (j := j + 1) (by omega)
        rw [V_same (by omega) hj h] at this
        rw [← this]
        congr 1 <;> omega
      · rfl
    · rw [H.down_out (.inr (by omega))]; rfl
/-- Is it a place of a diagonal? -/
def inr_ (x y : List Int) (k j : Int) : Prop := 0 ≤ j ∧ j ≤ y.length ∧ 0 ≤ j - k ∧ j - k ≤ x.length
def VV (x y : List Int) (k j : Int) : Int := V x y (j - k).toNat j.toNat
/-- The furthest place of a diagonal. -/
def IsFar (x y : List Int) (k v J : Int) : Prop := (J = -1 ∨ (inr_ x y k J ∧ VV x y k J ≤ v)) ∧ ∀ j, inr_ x y k j → VV x y k j ≤ v → j ≤ J
theorem IsFar.unique {x y : List Int} {k v J J' : Int} (h : IsFar x y k v J) (h' : IsFar x y k v J') : J = J' := by
  rcases h.1 with e | ⟨e1, e2⟩ <;> rcases h'.1 with e' | ⟨e1', e2'⟩
  · omega
  · have := h.2 _ e1' e2'; have := e1'.1; omega
  · have := h'.2 _ e1 e2; have := e1.1; omega
  · have := h.2 _ e1' e2'; have := h'.2 _ e1 e2; omega
theorem IsFar.none {x y : List Int} {k v : Int} (h : v < 0 ∨ v < -k) : IsFar x y k v (-1) := by
  refine ⟨.inl rfl, fun j hj hv => ?_⟩
  have h1 := V_nonneg x y (j - k).toNat j.toNat
  have h2 := V_ge x y (j - k).toNat j.toNat
  obtain ⟨a1, a2, a3, a4⟩ := hj
  unfold VV at hv
  omega
theorem IsFar.ge {x y : List Int} {k v J : Int} (h : IsFar x y k v J) : -1 ≤ J := by
  rcases h.1 with e | ⟨e, _⟩
  · omega
  · have := e.1; omega
def best (b l r : Int) : Int := let c := if l + 1 > b then l + 1 else b; if r > c then r else c
theorem best_as (b l r : Rch) : (as2 (as1 b l) r).1 = best b.1 l.1 r.1 := by
  unfold as2 as1 best
  by_cases h : l.1 + 1 > b.1
  · rw [if_pos h]; simp only [if_pos h]; split <;> rfl
  · rw [if_neg h]; simp only [if_neg h]; split <;> rfl
theorem best_ge (b l r : Int) : b ≤ best b l r ∧ l + 1 ≤ best b l r ∧ r ≤ best b l r ∧ (best b l r = b ∨ best b l r = l + 1 ∨ best b l r = r) := by
  unfold best; simp only; split <;> split <;> omega
theorem m3_eq (a b c : Int) : m3 a b c ≤ a ∧ m3 a b c ≤ b ∧ m3 a b c ≤ c ∧ (m3 a b c = a ∨ m3 a b c = b ∨ m3 a b c = c) := by
  unfold m3; split <;> split <;> omega
theorem VV_at {x y : List Int} {k j : Int} {p q : Nat} (h1 : j - k = p) (h2 : j = q) : VV x y k j = V x y p q := by
  unfold VV; rw [h1, h2]; rfl
theorem place_far {x y : List Int} {k v b l r : Int} (hv : 0 ≤ v) (hk : -k ≤ v) (hk1 : k ≤ y.length) (hk2 : -(x.length : Int) ≤ k) (Fb : IsFar x y k (v - 1) b) (Fl : IsFar x y (k - 1) v l) (Fr : IsFar x y (k + 1) (v - 1) r) :
    inr_ x y k (m3 (best b l r) y.length (x.length + k)) ∧ VV x y k (m3 (best b l r) y.length (x.length + k)) ≤ v := by
  obtain ⟨c1, c2, c3, c4⟩ := best_ge b l r
  have hl := Fl.ge
  have hck : k ≤ best b l r := by
    by_cases h : k ≤ 0
    · omega
    · have := Fl.2 (k - 1) ⟨by omega, by omega, by omega, by omega⟩ (by
        rw [VV_at (p := 0) (q := (k - 1).toNat) (by omega) (by omega), V_left]; exact hv)
      omega
  generalize best b l r = c at c1 c2 c3 c4 hck
  obtain ⟨q1, q2, q3, q4⟩ := m3_eq c y.length (x.length + k)
  generalize m3 c y.length (x.length + k) = q at q1 q2 q3 q4
  have hq : inr_ x y k q := ⟨by omega, q2, by omega, by omega⟩
  refine ⟨hq, ?_⟩
  obtain ⟨a1, a2, a3, a4⟩ := hq
  obtain ⟨jn, hjn⟩ := Int.eq_ofNat_of_zero_le a1
  obtain ⟨i_, hin⟩ := Int.eq_ofNat_of_zero_le a3
  rw [VV_at hin hjn]
  rcases c4 with e | e | e
  · rcases Fb.1 with h | ⟨⟨h1, h2, h3, h4⟩, h5⟩
    · omega
    · rw [VV_at (p := i_) (q := jn) (by omega) (by omega)] at h5; omega
  · rcases Fl.1 with h | ⟨⟨h1, h2, h3, h4⟩, h5⟩
    · obtain rfl : jn = 0 := by omega
      rw [V_top]; omega
    · by_cases hm : l + 1 ≤ y.length
      · obtain ⟨j', rfl⟩ : ∃ j', jn = j' + 1 := ⟨jn - 1, by omega⟩
        rw [VV_at (p := i_) (q := j') (by omega) (by omega)] at h5
        have := (V_right x y i_ (j := j') (by omega)).1
        omega
      · rw [VV_at (p := i_ + 1) (q := jn) (by omega) (by omega)] at h5
        have := (V_down x y (i := i_) (by omega) jn).1
        omega
  · rcases Fr.1 with h | ⟨⟨h1, h2, h3, h4⟩, h5⟩
    · omega
    · by_cases hm : r ≤ x.length + k
      · obtain ⟨i', rfl⟩ : ∃ i', i_ = i' + 1 := ⟨i_ - 1, by omega⟩
        rw [VV_at (p := i') (q := jn) (by omega) (by omega)] at h5
        have := (V_down x y (i := i') (by omega) jn).2
        omega
      · rw [VV_at (p := i_) (q := jn + 1) (by omega) (by omega)] at h5
        have := (V_right x y i_ (j := jn) (by omega)).2
        omega
theorem snake_far {x y : List Int} {k v b l r : Int} (hv : 0 ≤ v) (hk : -k ≤ v) (hk1 : k ≤ y.length) (hk2 : -(x.length : Int) ≤ k) (Fb : IsFar x y k (v - 1) b) (Fl : IsFar x y (k - 1) v l) (Fr : IsFar x y (k + 1) (v - 1) r) :
    IsFar x y k v (m3 (best b l r) y.length (x.length + k) + alikeN x y (m3 (best b l r) y.length (x.length + k) - k) (m3 (best b l r) y.length (x.length + k))) := by
  obtain ⟨hq, hV⟩ := place_far hv hk hk1 hk2 Fb Fl Fr
  obtain ⟨c1, c2, c3, c4⟩ := best_ge b l r
  generalize best b l r = c at hq hV c1 c2 c3 c4
  obtain ⟨q1, q2, q3, q4⟩ := m3_eq c y.length (x.length + k)
  generalize m3 c y.length (x.length + k) = q at hq hV q1 q2 q3 q4
  obtain ⟨a1, a2, a3, a4⟩ := hq
  obtain ⟨jn, hjn⟩ := Int.eq_ofNat_of_zero_le a1
  obtain ⟨i_, hin⟩ := Int.eq_ofNat_of_zero_le a3
  rw [VV_at hin hjn] at hV
  have hal : alikeN x y (q - k) q = ((H.down x y i_ jn : Nat) : Int) := by
    unfold alikeN
    rw [if_pos ⟨a3, a4, a1, a2⟩, hin, hjn]; rfl
  rw [hal]
  have b1 := H.down_le_left x y i_ jn
  have b2 := H.down_le_right x y i_ jn
  have b3 := V_down_same (x := x) (y := y) (x.length - i_) (i := i_) (j := jn) rfl
  have b4 := H.down_stop x y i_ jn
  generalize H.down x y i_ jn = d at b1 b2 b3 b4
  refine ⟨.inr ⟨⟨by omega, by omega, by omega, by omega⟩, by rw [VV_at (p := i_ + d) (q := jn + d) (by omega) (by omega), b3]; exact hV⟩, fun j hj hjv => ?_⟩
  obtain ⟨e1, e2, e3, e4⟩ := hj
  refine Int.not_lt.mp fun hlt => ?_
  have n1 : i_ + d < x.length := by omega
  have n2 : jn + d < y.length := by omega
  have hne : ¬ x.getD (i_ + d) 0 = y.getD (jn + d) 0 := fun h => by
    rw [H.down_step n1 n2, if_pos h] at b4; omega
  have hV1 : V x y (i_ + d + 1) (jn + d + 1) ≤ v := by
    have h := V_diag_all (x := x) (y := y) (j.toNat - (jn + d + 1)) (i := i_ + d + 1) (j := jn + d + 1) (by omega) (by omega)
    rw [VV_at (p := i_ + d + 1 + (j.toNat - (jn + d + 1))) (q := jn + d + 1 + (j.toNat - (jn + d + 1))) (by omega) (by omega)] at hjv
    omega
  rcases V_other n1 n2 hne with h | h
  · have := Fr.2 ((jn + d + 1 : Nat) : Int) ⟨by omega, by omega, by omega, by omega⟩ (by
      rw [VV_at (p := i_ + d) (q := jn + d + 1) (by omega) rfl]; omega)
    omega
  · have := Fl.2 ((jn + d : Nat) : Int) ⟨by omega, by omega, by omega, by omega⟩ (by
      rw [VV_at (p := i_ + d + 1) (q := jn + d) (by omega) rfl]; omega)
    omega

theorem atL_set {first : Int} {L : List Rch} {i : Nat} (hi : i < L.length) (r : Rch) (k : Int) : atL first (L.set i r) k = if k = first + i then r else atL first L k := by
  unfold atL
  rw [List.length_set]
  by_cases h : k = first + i
  · rw [if_pos h, if_neg (by omega), if_neg (by omega), show (k - first).toNat = i by omega, List.getD_eq_getElem?_getD, List.getElem?_set_self hi]; rfl
  · rw [if_neg h]
    split
    · rfl
    · split
      · rfl
      · rw [List.getD_eq_getElem?_getD, List.getElem?_set_ne (by omega), ← List.getD_eq_getElem?_getD]
theorem atL_out {first : Int} {L : List Rch} {k : Int} (h : k < first ∨ first + L.length ≤ k) : atL first L k = far0 := by
  unfold atL
  split
  · rfl
  · rw [if_pos (by omega)]
/-- What holds of each diagonal at the next cost, if it is kept by a step. -/
theorem nx_all {x y : List Int} (hxy : x.length ≤ y.length) {p : Nat} {fw : Int} {Lw : List Rch} (Pw Pn : Int → Rch → Prop) (hw : ∀ k, Pw k (atL fw Lw k)) (ho : ∀ k : Int, k < -p ∨ (y.length : Int) - x.length + p < k → Pn k far0)
    (hs : ∀ (k : Int) (b l r : Rch), -(p : Int) ≤ k → k ≤ (y.length : Int) - x.length + p → Pw k b → (if k ≤ (y.length : Int) - x.length then Pn (k - 1) l else Pw (k - 1) l) → (if k < (y.length : Int) - x.length then Pw (k + 1) r else Pn (k + 1) r) → Pn k (stp x y k b l r)) :
    ∀ k, Pn k (atL (-(p : Int)) (nx x y p fw Lw) k) := by
  have low : ∀ i : Nat, i ≤ y.length - x.length + p → ∀ k : Int, k < (i : Int) - p → Pn k (atL (-(p : Int)) (nxLow x y p fw Lw i) k) := by
    intro i
    induction i with
    | zero =>
      intro _ k hk
      rw [atL_out (.inl (by omega))]
      exact ho k (.inl (by omega))
    | succ i ih =>
      intro hi k hk
      have h := ih (by omega)
      rw [nxLow, atL_set (by rw [nxLow_len]; omega)]
      by_cases e : k = -(p : Int) + i
      · rw [if_pos e]
        have e2 : k = (i : Int) - p := by omega
        subst e2
        refine hs _ _ _ _ (by omega) (by omega) (hw _) ?_ ?_
        · rw [if_pos (by omega)]; exact h _ (by omega)
        · rw [if_pos (by omega)]; exact hw _
      · rw [if_neg e]
        exact h k (by omega)
  have high : ∀ i : Nat, i ≤ p → ∀ k : Int, k < (y.length : Int) - x.length ∨ (y.length : Int) - x.length + p - i < k → Pn k (atL (-(p : Int)) (nxHigh x y p fw Lw i) k) := by
    intro i
    induction i with
    | zero =>
      intro _ k hk
      rw [nxHigh]
      by_cases hkk : k < (y.length : Int) - x.length
      · exact low _ (Nat.le_refl _) k (by omega)
      · rw [atL_out (.inr (by rw [nxLow_len]; omega))]
        exact ho k (.inr (by omega))
    | succ i ih =>
      intro hi k hk
      have h := ih (by omega)
      rw [nxHigh, atL_set (by rw [nxHigh_len]; omega)]
      by_cases e : k = -(p : Int) + ((y.length - x.length + 2 * p - i : Nat) : Int)
      · rw [if_pos e]
        have e2 : k = (y.length : Int) - x.length + p - i := by omega
        subst e2
        refine hs _ _ _ _ (by omega) (by omega) (hw _) ?_ ?_
        · rw [if_neg (by omega)]; exact hw _
        · rw [if_neg (by omega)]; exact h _ (.inr (by omega))
      · rw [if_neg e]
        exact h k (by omega)
  intro k
  have h := high p (Nat.le_refl p)
  rw [nx, atL_set (by rw [nxHigh_len]; omega)]
  by_cases e : k = -(p : Int) + ((y.length - x.length + p : Nat) : Int)
  · rw [if_pos e]
    have e2 : k = (y.length : Int) - x.length := by omega
    subst e2
    refine hs _ _ _ _ (by omega) (by omega) (hw _) ?_ ?_
    · rw [if_pos (by omega)]; exact h _ (.inl (by omega))
    · rw [if_neg (by omega)]; exact h _ (.inr (by omega))
  · rw [if_neg e]
    exact h k (by omega)
/-- What is left of a cost on a diagonal. -/
def left_ (x y : List Int) (p k : Int) : Int := if k ≤ (y.length : Int) - x.length then p else p - (k - ((y.length : Int) - x.length))
theorem stp_1 (x y : List Int) (k : Int) (b l r : Rch) : (stp x y k b l r).1 = m3 (best b.1 l.1 r.1) y.length (x.length + k) + alikeN x y (m3 (best b.1 l.1 r.1) y.length (x.length + k) - k) (m3 (best b.1 l.1 r.1) y.length (x.length + k)) := by
  unfold stp
  rw [best_as]
  generalize m3 (best b.1 l.1 r.1) y.length (x.length + k) = q
  have := (dn_bound x y (q - k) q).1
  split
  · rfl
  · show q = q + _; omega
/-- At each cost the furthest place of each diagonal. -/
theorem pr_far {x y : List Int} (hxy : x.length ≤ y.length) : ∀ p : Nat, p ≤ x.length + 1 → ∀ k, IsFar x y k (left_ x y ((p : Int) - 1) k) (atL (pr x y p).1 (pr x y p).2 k).1
  | 0, _ => fun k => by
    rw [show pr x y 0 = (0, []) from rfl, atL_out (by simp; omega)]
    refine IsFar.none (.inl ?_)
    unfold left_; split <;> omega
  | p + 1, hp => by
    have ih := pr_far hxy p (by omega)
    rw [pr.eq_2]
    refine nx_all hxy (Pw := fun k r => IsFar x y k (left_ x y ((p : Int) - 1) k) r.1) (Pn := fun k r => IsFar x y k (left_ x y (((p + 1 : Nat) : Int) - 1) k) r.1) ih (fun k hk => ?_) (fun k b l r h1 h2 hb hl hr => ?_)
    · refine IsFar.none ?_
      unfold left_; split <;> omega
    · have e0 : left_ x y (((p + 1 : Nat) : Int) - 1) k = left_ x y ((p : Int) - 1) k + 1 := by unfold left_; split <;> omega
      have el : IsFar x y (k - 1) (left_ x y (((p + 1 : Nat) : Int) - 1) k) l.1 := by
        by_cases h : k ≤ (y.length : Int) - x.length
        · rw [if_pos h] at hl
          have : left_ x y (((p + 1 : Nat) : Int) - 1) (k - 1) = left_ x y (((p + 1 : Nat) : Int) - 1) k := by unfold left_; rw [if_pos (by omega), if_pos h]
          rwa [this] at hl
        · rw [if_neg h] at hl
          have : left_ x y ((p : Int) - 1) (k - 1) = left_ x y (((p + 1 : Nat) : Int) - 1) k := by unfold left_; rw [if_neg h]; split <;> omega
          rwa [this] at hl
      have er : IsFar x y (k + 1) (left_ x y (((p + 1 : Nat) : Int) - 1) k - 1) r.1 := by
        by_cases h : k < (y.length : Int) - x.length
        · rw [if_pos h] at hr
          have : left_ x y ((p : Int) - 1) (k + 1) = left_ x y (((p + 1 : Nat) : Int) - 1) k - 1 := by unfold left_; rw [if_pos (by omega), if_pos (by omega)]; omega
          rwa [this] at hr
        · rw [if_neg h] at hr
          have : left_ x y (((p + 1 : Nat) : Int) - 1) (k + 1) = left_ x y (((p + 1 : Nat) : Int) - 1) k - 1 := by unfold left_; rw [if_neg (by omega)]; split <;> omega
          rwa [this] at hr
      show IsFar x y k _ (stp x y k b l r).1
      rw [stp_1]
      refine snake_far ?_ ?_ (by omega) (by omega) ?_ el er
      · unfold left_; split <;> omega
      · unfold left_; split <;> omega
      · rw [e0]; show IsFar x y k (_ + 1 - 1) b.1; rw [Int.add_sub_cancel]; exact hb
theorem V_end {x y : List Int} : V x y x.length y.length = (x.length : Int) - lcs x y := by unfold V; rw [H_all]
/-- The end is reached at the right cost, not ahead of it. -/
theorem end_iff {x y : List Int} (hxy : x.length ≤ y.length) (p : Nat) (hp : p ≤ x.length) : (atL (-(p : Int)) (pr x y (p + 1)).2 ((y.length : Int) - x.length)).1 = y.length ↔ x.length - lcs x y ≤ p := by
  have h := pr_far hxy (p + 1) (by omega) ((y.length : Int) - x.length)
  have hl := lcs_le_left x y
  rw [show (pr x y (p + 1)).1 = -(p : Int) from rfl] at h
  generalize (atL (-(p : Int)) (pr x y (p + 1)).2 ((y.length : Int) - x.length)).1 = J at h
  have el : left_ x y (((p + 1 : Nat) : Int) - 1) ((y.length : Int) - x.length) = p := by unfold left_; rw [if_pos (Int.le_refl _)]; omega
  rw [el] at h
  have hV : VV x y ((y.length : Int) - x.length) y.length = (x.length : Int) - lcs x y := by rw [VV_at (p := x.length) (q := y.length) (by omega) rfl, V_end]
  constructor
  · intro e
    subst e
    rcases h.1 with e | ⟨_, e⟩
    · omega
    · rw [hV] at e; omega
  · intro e
    have h2 := h.2 y.length ⟨by omega, by omega, by omega, by omega⟩ (by rw [hV]; omega)
    rcases h.1 with e3 | ⟨e3, _⟩
    · omega
    · have := e3.2.1; omega
/-- The steps up to a cost. -/
def stepsTo (w : Int) : Nat → Int
  | 0 => 0
  | p + 1 => stepsTo w p + (w + 2 * p + 1)
theorem stepsTo_eq (w : Int) : ∀ p : Nat, stepsTo w p = p * (w + p)
  | 0 => by simp [stepsTo]
  | p + 1 => by
    rw [stepsTo, stepsTo_eq w p]
    have : ((p + 1 : Nat) : Int) = (p : Int) + 1 := by omega
    rw [this]
    have e1 : ((p : Int) + 1) * (w + ((p : Int) + 1)) = (p : Int) * (w + p) + (w + p) + (p + 1) := by
      rw [Int.add_mul, Int.one_mul, ← Int.add_assoc w, Int.mul_add (p : Int) (w + p) 1, Int.mul_one]; omega
    omega
theorem stepsTo_le (w : Int) (hw : 0 ≤ w) (hw' : w ≤ 1000000) (p : Nat) (hp : p ≤ 1000001) : 0 ≤ stepsTo w p ∧ stepsTo w p ≤ 4000000000000 := by
  rw [stepsTo_eq]
  exact ⟨Int.mul_nonneg (by omega) (by omega), by
    have : (p : Int) * (w + p) ≤ 1000001 * 2000001 := Int.mul_le_mul (by omega) (by omega) (by omega) (by omega)
    omega⟩
theorem search_l0_eq {x y : List Int} (hxy : x.length ≤ y.length) (hyl : y.length ≤ 1000000) : ∀ (d p k : Nat), p + d = x.length - lcs x y → d < k →
    onp_search.l0 k x y p (stepsTo ((y.length : Int) - x.length) p) = some (x.length - lcs x y, (atL (-((x.length - lcs x y : Nat) : Int)) (pr x y (x.length - lcs x y + 1)).2 ((y.length : Int) - x.length)).2, stepsTo ((y.length : Int) - x.length) (x.length - lcs x y + 1)) := by
  have hl := lcs_le_left x y
  intro d
  induction d with
  | zero =>
    intro p k hd hk
    obtain ⟨k, rfl⟩ : ∃ m, k = m + 1 := ⟨k - 1, by omega⟩
    obtain rfl : p = x.length - lcs x y := by omega
    have hs := stepsTo_le ((y.length : Int) - x.length) (by omega) (by omega) (x.length - lcs x y) (by omega)
    have e := (end_iff hxy (x.length - lcs x y) (by omega)).2 (Nat.le_refl _)
    have hn : ((pr x y (x.length - lcs x y + 1)).2.length : Int) = (y.length : Int) - x.length + 2 * ((x.length - lcs x y : Nat) : Int) + 1 := by
      rw [show (pr x y (x.length - lcs x y + 1)).2 = nx x y (x.length - lcs x y) _ _ from rfl, nx_len]; omega
    rw [onp_search.l0, if_pos (by omega), if_pos e, hn, wr (by omega) (by omega), stepsTo]
  | succ d ih =>
    intro p k hd hk
    obtain ⟨k, rfl⟩ : ∃ m, k = m + 1 := ⟨k - 1, by omega⟩
    have hs := stepsTo_le ((y.length : Int) - x.length) (by omega) (by omega) p (by omega)
    have e : ¬ (atL (-(p : Int)) (pr x y (p + 1)).2 ((y.length : Int) - x.length)).1 = y.length := fun e => by
      have := (end_iff hxy p (by omega)).1 e; omega
    have hn : ((pr x y (p + 1)).2.length : Int) = (y.length : Int) - x.length + 2 * (p : Int) + 1 := by
      rw [show (pr x y (p + 1)).2 = nx x y p _ _ from rfl, nx_len]; omega
    have h := ih (p + 1) k (by omega) (by omega)
    rw [stepsTo] at h
    rw [onp_search.l0, if_pos (by omega), if_neg e, hn, wr (by omega) (by omega)]
    exact h
theorem search_eq {x y : List Int} (hxy : x.length ≤ y.length) (hyl : y.length ≤ 1000000) (k : Nat) (hk : x.length < k) :
    onp_search.f k x y = some (x.length - lcs x y, (atL (-((x.length - lcs x y : Nat) : Int)) (pr x y (x.length - lcs x y + 1)).2 ((y.length : Int) - x.length)).2, stepsTo ((y.length : Int) - x.length) (x.length - lcs x y + 1)) :=
  search_l0_eq hxy hyl (x.length - lcs x y) 0 k (by omega) (by omega)
/-- How many furthest points it takes. -/
def pointsOf (x y : List Int) : Int := stepsTo ((y.length : Int) - x.length) (x.length - lcs x y + 1)
theorem Dist_g_eq {x y : List Int} (hxy : x.length ≤ y.length) (hyl : y.length ≤ 1000000) (k : Nat) (hk : x.length < k) : onp_Dist.g k x y = some ((dist x y : Int), pointsOf x y) := by
  unfold onp_Dist.g
  rw [search_eq hxy hyl k hk, bs]
  have h1 := lcs_le_left x y
  have h2 := dist_add x y
  simp only
  rw [wr (x := 2 * ((x.length - lcs x y : Nat) : Int)) (by omega) (by omega), wr (by omega) (by omega)]
  congr 2
  omega

/-- How far the diagonals come at a cost. -/
def frl (x y : List Int) (p : Nat) : List Int := (pr x y (p + 1)).2.map fun r => r.1
theorem frl_len (x y : List Int) (p : Nat) : (frl x y p).length = y.length - x.length + 2 * p + 1 := by
  unfold frl; rw [List.length_map, show (pr x y (p + 1)).2 = nx x y p _ _ from rfl, nx_len]
theorem frl_at {x y : List Int} (p i : Nat) (hi : i < y.length - x.length + 2 * p + 1) : (frl x y p).getD i 0 = (atL (-(p : Int)) (pr x y (p + 1)).2 ((i : Int) - p)).1 := by
  have hl : (pr x y (p + 1)).2.length = y.length - x.length + 2 * p + 1 := by rw [show (pr x y (p + 1)).2 = nx x y p _ _ from rfl, nx_len]
  unfold frl atL
  rw [if_neg (by omega), if_neg (by omega), show ((i : Int) - p - -(p : Int)).toNat = i by omega]
  simp only [List.getD_eq_getElem?_getD, List.getElem?_map]
  rw [List.getElem?_eq_getElem (by omega)]
  rfl
theorem frl_far {x y : List Int} (hxy : x.length ≤ y.length) (p i : Nat) (hp : p ≤ x.length) (hi : i < y.length - x.length + 2 * p + 1) : IsFar x y ((i : Int) - p) (left_ x y p ((i : Int) - p)) ((frl x y p).getD i 0) := by
  rw [frl_at p i hi]
  have h := pr_far hxy (p + 1) (by omega) ((i : Int) - p)
  rw [show (((p + 1 : Nat) : Int) - 1) = p by omega] at h
  exact h
theorem Far_g_eq (x y : List Int) (p : Nat) (hp : p ≤ x.length) : onp_Far.g x y (p : Int) = some (frl x y p) := by
  unfold onp_Far.g
  rw [if_neg (by omega), if_neg (by omega), Int.toNat_natCast]
  rfl
def shortOf (x y : List Int) : List Int := if y.length < x.length then y else x
def longOf (x y : List Int) : List Int := if y.length < x.length then x else y
theorem short_le (x y : List Int) : (shortOf x y).length ≤ (longOf x y).length := by unfold shortOf longOf; split <;> omega
theorem short_lcs (x y : List Int) : lcs (shortOf x y) (longOf x y) = lcs x y ∧ dist (shortOf x y) (longOf x y) = dist x y := by
  unfold shortOf longOf; split
  · exact ⟨lcs_comm _ _, dist_comm _ _⟩
  · exact ⟨rfl, rfl⟩
theorem short_len (x y : List Int) : ((shortOf x y).length = x.length ∧ (longOf x y).length = y.length ∧ x.length ≤ y.length) ∨ ((shortOf x y).length = y.length ∧ (longOf x y).length = x.length ∧ y.length < x.length) := by
  unfold shortOf longOf; split
  · exact .inr ⟨rfl, rfl, by assumption⟩
  · exact .inl ⟨rfl, rfl, by omega⟩
theorem onp_Far_eq (x y : List Int) (hx : x.length ≤ 1000) (hy : y.length ≤ 1000) (p : Nat) (hp : p ≤ (shortOf x y).length) (k : Nat) : onp_Far.f k x y (p : Int) = some (frl (shortOf x y) (longOf x y) p) := by
  unfold onp_Far.f
  rw [if_pos ⟨by omega, by omega⟩]
  unfold shortOf longOf at *
  by_cases h : y.length < x.length
  · rw [if_pos h] at hp
    rw [if_pos h, if_pos h, if_pos h, Far_g_eq _ _ _ hp]
  · rw [if_neg h] at hp
    rw [if_neg h, if_neg h, if_neg h, Far_g_eq _ _ _ hp]

def trow (a b : List Int) (p : Nat) : List Int := seq (b.length + 1) fun q => (T a b p q : Int)
theorem tattingref7_Behind_l1 (a b : List Int) (ha : a.length ≤ 100000) (hb : b.length ≤ 100000) (r : List (List Int)) (i : Nat) (hi : i < a.length) (F : Nat → List Int) (hF : ∀ p, i < p → p ≤ a.length → F p = trow a b p)
    (hr : ∀ G : Nat → List Int, (∀ p, i ≤ p → p ≤ a.length → G p = trow a b p) → Ev (fun k => tattingref7_Behind.l0 k a b (seq (a.length + 1) G) ((i : Int) - 1)) r) : ∀ (j : Nat) (g : Nat → Int), j ≤ b.length → (∀ q, j ≤ q → q ≤ b.length → g q = T a b i q) →
    Ev (fun k => tattingref7_Behind.l1 k a b (seq (a.length + 1) (upd F i (seq (b.length + 1) g))) i ((j : Int) - 1)) r := by
  intro j
  induction j with
  | zero =>
    intro g hj h2
    refine Ev.step (f := fun k => tattingref7_Behind.j2 k a b (seq (a.length + 1) (upd F i (seq (b.length + 1) g))) i (((0 : Nat) : Int) - 1) false) (fun k => ?_) ?_
    · have e : decide ((((0 : Nat) : Int) - 1) ≥ 0) = false := decide_eq_false (by omega)
      rw [tattingref7_Behind.l1, if_pos (by omega), e]
    · refine Ev.step (fun k => ?_) (hr (upd F i (seq (b.length + 1) g)) (fun p hp hp' => ?_))
      · rw [tattingref7_Behind.j2, ift, wr (by omega) (by omega)]
      · by_cases h : p = i
        · subst h; rw [upd_same]; exact seq_ext fun q hq => h2 q (by omega) (by omega)
        · rw [upd_ne _ _ h]; exact hF p (by omega) hp'
  | succ j ih =>
    intro g hj h2
    refine Ev.step (f := fun k => tattingref7_Behind.j2 k a b (seq (a.length + 1) (upd F i (seq (b.length + 1) g))) i (((j + 1 : Nat) : Int) - 1) true) (fun k => ?_) ?_
    · have e : decide ((((j + 1 : Nat) : Int) - 1) ≥ 0) = true := decide_eq_true (by omega)
      rw [tattingref7_Behind.l1, if_pos (by omega), e]
    have hF1 := hF (i + 1) (by omega) (by omega)
    have hu : upd F i (seq (b.length + 1) g) (i + 1) = trow a b (i + 1) := by rw [upd_ne _ _ (by omega)]; exact hF1
    have l0 := seq_length (a.length + 1) (upd F i (seq (b.length + 1) g))
    have l1 := seq_length (b.length + 1) g
    have l2 : (trow a b (i + 1)).length = b.length + 1 := seq_length _ _
    have e1 : rd a (i : Int) = a.getD i 0 := rfl
    have e2 : rd b ((((j + 1 : Nat) : Int)) - 1) = b.getD j 0 := rd_at (by omega)
    have e3 := rd_L2_seq (n := a.length + 1) (upd F i (seq (b.length + 1) g)) (i := (i : Int)) (p := i) (by omega) rfl
    rw [upd_same] at e3
    have e4 := rd_L2_seq (n := a.length + 1) (upd F i (seq (b.length + 1) g)) (i := (i : Int) + 1) (p := i + 1) (by omega) (by omega)
    rw [hu] at e4
    have e5 : rd (trow a b (i + 1)) ((((j + 1 : Nat) : Int)) - 1 + 1) = T a b (i + 1) (j + 1) := rd_seq (n := b.length + 1) (fun q => (T a b (i + 1) q : Int)) (p := j + 1) (by omega) (by omega)
    have e6 : rd (trow a b (i + 1)) ((((j + 1 : Nat) : Int)) - 1) = T a b (i + 1) j := rd_seq (n := b.length + 1) (fun q => (T a b (i + 1) q : Int)) (p := j) (by omega) (by omega)
    have e7 := rd_seq (n := b.length + 1) g (i := (((j + 1 : Nat) : Int)) - 1 + 1) (p := j + 1) (by omega) (by omega)
    have hs := T_step (a := a) (b := b) (i := i) (j := j) hi (by omega)
    have t1 := T_le_left a b (i + 1) (j + 1)
    have v3 := h2 (j + 1) (by omega) (by omega)
    have key : ∀ v : Int, v = T a b i j → Ev (fun k => tattingref7_Behind.l1 k a b ((seq (a.length + 1) (upd F i (seq (b.length + 1) g))).set (i : Int).toNat ((seq (b.length + 1) g).set ((((j + 1 : Nat) : Int)) - 1).toNat v)) i ((((j + 1 : Nat) : Int)) - 1 - 1)) r := by
      intro v hv
      rw [show ((((j + 1 : Nat) : Int)) - 1).toNat = j by omega, show ((((j + 1 : Nat) : Int)) - 1 - 1) = (j : Int) - 1 by omega, Int.toNat_natCast, seq_set, seq_set]
      have hg := ih (upd g j v) (by omega) (fun q hq hq' => by
        by_cases h : q = j
        · subst h; rw [upd_same, hv]
        · rw [upd_ne _ _ h]; exact h2 q (by omega) hq')
      have e : upd (upd F i (seq (b.length + 1) g)) i (seq (b.length + 1) (upd g j v)) = upd F i (seq (b.length + 1) (upd g j v)) := by
        funext p
        by_cases h : p = i
        · subst h; rw [upd_same, upd_same]
        · rw [upd_ne _ _ h, upd_ne _ _ h, upd_ne _ _ h]
      rw [e]; exact hg
    by_cases hab : a.getD i 0 = b.getD j 0
    · refine Ev.step (fun k => ?_) (key (T a b (i + 1) (j + 1) + 1) ?_)
      · simp (disch := omega) only [tattingref7_Behind.j2, itt, ifT, wr, if_pos, e1, e2, e3, e4, e5, l0, l1, l2, if_pos hab]
      · rw [hs, if_pos hab]; simp
    · refine Ev.step (fun k => ?_) (key (mx (T a b (i + 1) j) (g (j + 1))) ?_)
      · simp (disch := omega) only [tattingref7_Behind.j2, itt, ifT, wr, if_pos, e1, e2, e3, e4, e6, e7, l0, l1, l2]
        simp (disch := omega) only [if_neg hab, if_pos, wr]
      · rw [hs, if_neg hab, v3]; unfold mx; omega
theorem tattingref7_Behind_l0 (a b : List Int) (ha : a.length ≤ 100000) (hb : b.length ≤ 100000) : ∀ (i : Nat) (F : Nat → List Int), i ≤ a.length →
    (∀ p, i ≤ p → p ≤ a.length → F p = trow a b p) → Ev (fun k => tattingref7_Behind.l0 k a b (seq (a.length + 1) F) ((i : Int) - 1)) (behind a b) := by
  intro i
  induction i with
  | zero =>
    intro F hi h1
    refine Ev.step (f := fun _ => some _) (fun k => ?_) (Ev.now _)
    simp (disch := omega) only [tattingref7_Behind.l0, if_neg]
    congr 1
    exact seq_ext fun p hp => h1 p (by omega) (by omega)
  | succ i ih =>
    intro F hi h1
    refine Ev.step (fun k => ?_) (tattingref7_Behind_l1 a b ha hb (behind a b) i (by omega) F (fun p hp hp' => h1 p (by omega) hp') (fun G hG => ih G (by omega) hG) b.length (fun _ => 0) (by omega) (fun q hq hq' => ?_))
    · have l0 := seq_length (a.length + 1) F
      have e : ((b.length : Int) + 1).toNat = b.length + 1 := by omega
      simp (disch := omega) only [tattingref7_Behind.l0, wr, if_pos, e, l0, seq_const, seq_set]
      rw [show ((((i + 1 : Nat) : Int)) - 1) = (i : Int) by omega, Int.toNat_natCast]
    · rw [T_out_right (by omega)]; rfl
theorem tattingref7_Behind_eq (a b : List Int) (ha : a.length ≤ 100000) (hb : b.length ≤ 100000) : Ev (fun k => tattingref7_Behind.f k a b) (behind a b) := by
  have hrow : (seq (b.length + 1) fun _ => (0 : Int)) = trow a b a.length := seq_ext fun q hq => by rw [T_out_left (by omega)]; rfl
  have h0 := tattingref7_Behind_l0 a b ha hb a.length (upd (fun _ => []) a.length (seq (b.length + 1) fun _ => 0)) (by omega) (fun p hp hp' => by
    obtain rfl : p = a.length := by omega
    rw [upd_same, hrow])
  have h1 : Ev (fun k => tattingref7_Behind.l1 k a b (seq (a.length + 1) (upd (fun _ => []) a.length (seq (b.length + 1) fun _ => 0))) a.length ((b.length : Int) - 1)) (behind a b) := by
    refine Ev.step (f := fun k => tattingref7_Behind.j2 k a b (seq (a.length + 1) (upd (fun _ => []) a.length (seq (b.length + 1) fun _ => 0))) a.length ((b.length : Int) - 1) false) (fun k => ?_) (Ev.step (fun k => ?_) h0)
    · rw [tattingref7_Behind.l1, if_neg (by omega)]
    · rw [tattingref7_Behind.j2, ift, wr (by omega) (by omega)]
  have h2 : Ev (fun k => tattingref7_Behind.l0 k a b (seq (a.length + 1) (fun _ => [])) a.length) (behind a b) := by
    refine Ev.step (fun k => ?_) h1
    have l0 := seq_length (a.length + 1) (fun _ => ([] : List Int))
    have e : ((b.length : Int) + 1).toNat = b.length + 1 := by omega
    simp (disch := omega) only [tattingref7_Behind.l0, wr, if_pos, e, l0, seq_const, seq_set]
    rw [Int.toNat_natCast]
  refine Ev.congr (fun k => ?_) h2
  have e : ((a.length : Int) + 1).toNat = a.length + 1 := by omega
  unfold tattingref7_Behind.f
  simp (disch := omega) only [wr, if_pos, e, seq_const]

theorem tattingref7_Turned_l0 (a : List Int) (ha : a.length ≤ 1000000) : ∀ (i k : Nat), i ≤ a.length → i < k →
    tattingref7_Turned.l0 k a (a.drop i).reverse ((i : Int) - 1) = some a.reverse := by
  intro i
  induction i with
  | zero =>
    intro k hi hk
    obtain ⟨k, rfl⟩ : ∃ m, k = m + 1 := ⟨k - 1, by omega⟩
    simp (disch := omega) only [tattingref7_Turned.l0, if_neg]
    simp
  | succ i ih =>
    intro k hi hk
    obtain ⟨k, rfl⟩ : ∃ m, k = m + 1 := ⟨k - 1, by omega⟩
    have e1 : rd a ((((i + 1 : Nat) : Int)) - 1) = a.getD i 0 := rd_at (by omega)
    have h4 := ih k (by omega) (by omega)
    have hl : (a.drop (i + 1)).reverse.length ≤ a.length := by simp
    rw [drop_getD (show i < a.length by omega), List.reverse_cons] at h4
    simp (disch := omega) only [tattingref7_Turned.l0, if_pos, e1, wr]
    rw [show (((i + 1 : Nat) : Int)) - 1 - 1 = (i : Int) - 1 by omega]
    exact h4
theorem tattingref7_Turned_eq (a : List Int) (ha : a.length ≤ 1000000) (k : Nat) (hk : a.length < k) : tattingref7_Turned.f k a = some a.reverse := by
  have := tattingref7_Turned_l0 a ha a.length k (by omega) hk
  unfold tattingref7_Turned.f
  rw [wr (by omega) (by omega)]
  simpa using this

def arow (a b : List Int) (p : Nat) : List Int := seq (b.length + 1) fun q => (H a b p q : Int)
theorem T_turned (a b : List Int) (i j : Nat) (hi : i ≤ a.length) (hj : j ≤ b.length) : T a.reverse b.reverse (a.length - i) (b.length - j) = H a b i j := by
  unfold T H
  rw [List.drop_reverse, List.drop_reverse, lcs_reverse, show a.length - (a.length - i) = i by omega, show b.length - (b.length - j) = j by omega]
theorem behind_turned (a b : List Int) (i j : Nat) (hi : i ≤ a.length) (hj : j ≤ b.length) : (rd_L2 (behind a.reverse b.reverse) ((a.length - i : Nat) : Int)).length = b.length + 1 ∧ rd (rd_L2 (behind a.reverse b.reverse) ((a.length - i : Nat) : Int)) ((b.length - j : Nat) : Int) = (H a b i j : Int) := by
  unfold behind
  rw [List.length_reverse, List.length_reverse, rd_L2_seq _ (show a.length - i < a.length + 1 by omega) rfl, seq_length, rd_seq _ (show b.length - j < b.length + 1 by omega) rfl, T_turned a b i j hi hj]
  exact ⟨rfl, rfl⟩
theorem AheadB_l1 (a b : List Int) (ha : a.length ≤ 100000) (hb : b.length ≤ 100000) (i : Nat) (hi : i ≤ a.length) (F : Nat → List Int) (hF : ∀ p, p < i → F p = arow a b p) {R : List (List Int)}
    (hr : ∀ G : Nat → List Int, (∀ p, p < i + 1 → G p = arow a b p) → Ev (fun k => tattingref7_AheadB.l0 k a b (behind a.reverse b.reverse) (seq (a.length + 1) G) ((i : Int) + 1)) R) : ∀ (d j : Nat) (g : Nat → Int), j + d = b.length + 1 → (∀ q, q < j → g q = H a b i q) →
    Ev (fun k => tattingref7_AheadB.l1 k a b (behind a.reverse b.reverse) (seq (a.length + 1) (upd F i (seq (b.length + 1) g))) i j) R := by
  have hlen : (behind a.reverse b.reverse).length = a.length + 1 := by unfold behind; rw [seq_length, List.length_reverse]
  intro d
  induction d with
  | zero =>
    intro j g hj hg
    refine Ev.step (fun k => ?_) (hr (upd F i (seq (b.length + 1) g)) (fun p hp => ?_))
    · rw [tattingref7_AheadB.l1, if_neg (by omega), wr (by omega) (by omega)]
    · by_cases e : p = i
      · subst e; rw [upd_same]; exact seq_ext fun q hq => hg q (by omega)
      · rw [upd_ne _ _ e]; exact hF p (by omega)
  | succ d ih =>
    intro j g hj hg
    obtain ⟨b1, b2⟩ := behind_turned a b i j hi (by omega)
    have e0 : rd_L2 (seq (a.length + 1) (upd F i (seq (b.length + 1) g))) (i : Int) = seq (b.length + 1) g := by
      rw [rd_L2_seq _ (show i < a.length + 1 by omega) rfl, upd_same]
    have w1 : ((a.length : Int) - i) = ((a.length - i : Nat) : Int) := by omega
    have w2 : ((b.length : Int) - j) = ((b.length - j : Nat) : Int) := by omega
    have l1 := seq_length (a.length + 1) (upd F i (seq (b.length + 1) g))
    have l2 := seq_length (b.length + 1) g
    have h4 := ih (j + 1) (upd g j (H a b i j)) (by omega) (fun q hq => by
      by_cases e : q = j
      · subst e; rw [upd_same]
      · rw [upd_ne _ _ e]; exact hg q (by omega))
    refine Ev.step (fun k => ?_) h4
    simp only [Int.natCast_add, Int.cast_ofNat_Int]
    rw [tattingref7_AheadB.l1, if_pos (by omega), if_pos (by omega), if_pos (by omega), e0, wr (x := (a.length : Int) - i) (by omega) (by omega), wr (x := (b.length : Int) - j) (by omega) (by omega), w1, w2, b1, b2,
      if_pos (by omega), if_pos (by omega), if_pos (by omega), if_pos (by omega), if_pos (by omega), if_pos (by omega), Int.toNat_natCast, Int.toNat_natCast, seq_set, seq_set, wr (x := (j : Int) + 1) (by omega) (by omega)]
    congr 1
    refine seq_ext fun p hp => ?_
    by_cases e : p = i
    · subst e; rw [upd_same, upd_same]
    · rw [upd_ne _ _ e, upd_ne _ _ e, upd_ne _ _ e]
theorem AheadB_l0 (a b : List Int) (ha : a.length ≤ 100000) (hb : b.length ≤ 100000) : ∀ (d i : Nat) (F : Nat → List Int), i + d = a.length + 1 → (∀ p, p < i → F p = arow a b p) →
    Ev (fun k => tattingref7_AheadB.l0 k a b (behind a.reverse b.reverse) (seq (a.length + 1) F) i) (ahead a b) := by
  intro d
  induction d with
  | zero =>
    intro i F hi hF
    refine Ev.step (f := fun _ => some (ahead a b)) (fun k => ?_) (Ev.now _)
    rw [tattingref7_AheadB.l0, if_neg (by omega)]
    congr 1
    exact seq_ext fun p hp => hF p (by omega)
  | succ d ih =>
    intro i F hi hF
    have h1 := AheadB_l1 a b ha hb i (by omega) F hF (R := ahead a b) (fun G hG => by
      have := ih (i + 1) G (by omega) hG
      simpa using this) (b.length + 1) 0 (fun _ => 0) (by omega) (fun q hq => by omega)
    refine Ev.step (fun k => ?_) h1
    have l1 := seq_length (a.length + 1) F
    have w1 : ((b.length : Int) + 1).toNat = b.length + 1 := by omega
    rw [tattingref7_AheadB.l0, if_pos (by omega), wr (x := (b.length : Int) + 1) (by omega) (by omega), if_pos (by omega), if_pos (by omega), if_pos (by omega), if_pos (by omega), w1, Int.toNat_natCast, seq_const, seq_set]
    rfl
theorem tattingref7_Ahead_eq (a b : List Int) (ha : a.length ≤ 100000) (hb : b.length ≤ 100000) : Ev (fun k => tattingref7_Ahead.f k a b) (ahead a b) := by
  have la : a.reverse.length = a.length := List.length_reverse
  have lb : b.reverse.length = b.length := List.length_reverse
  obtain ⟨K1, h1⟩ := tattingref7_Behind_eq a.reverse b.reverse (by omega) (by omega)
  obtain ⟨K2, h2⟩ := AheadB_l0 a b ha hb (a.length + 1) 0 (fun _ => []) (by omega) (fun p hp => by omega)
  refine ⟨300000 + K1 + K2, fun k hk => ?_⟩
  have e1 : tattingref7_Behind.f k a.reverse b.reverse = some _ := h1 k (by omega)
  have e2 : tattingref7_AheadB.l0 k a b (behind a.reverse b.reverse) (seq (a.length + 1) fun _ => []) ((0 : Nat) : Int) = some _ := h2 k (by omega)
  have w1 : ((a.length : Int) + 1).toNat = a.length + 1 := by omega
  show tattingref7_Ahead.f k a b = some _
  unfold tattingref7_Ahead.f tattingref7_AheadA.f tattingref7_AheadB.f
  rw [tattingref7_Turned_eq a (by omega) k (by omega), bs, tattingref7_Turned_eq b (by omega) k (by omega), bs, e1, bs, bs, wr (x := (a.length : Int) + 1) (by omega) (by omega), if_pos (by omega), if_pos (by omega), w1, seq_const]
  exact e2

/-! tattingref15.Far. -/
theorem rd_L2_ahead (x y : List Int) (i : Nat) (hi : i ≤ x.length) : rd_L2 (ahead x y) (i : Int) = seq (y.length + 1) fun j => (H x y i j : Int) := by
  show (seq (x.length + 1) _).getD (i : Int).toNat [] = _
  rw [Int.toNat_natCast, seq_getD _ (by omega)]
theorem tab15_ahead (x y : List Int) (hx : x.length ≤ 1000) : tab15 (ahead x y) x.length y.length := by
  refine ⟨seq_length _ _, fun i hi => ?_⟩
  rw [rd_L2_ahead x y i hi]
  refine ⟨seq_length _ _, fun j hj => ?_⟩
  rw [rd_seq _ (show j < y.length + 1 by omega) rfl]
  have := H_le_i x y i j
  omega
theorem left_mx (x y : List Int) (p k : Int) : left_ x y p k = p - mx (k - ((y.length : Int) - x.length)) 0 := by
  unfold left_ mx; split <;> split <;> omega
theorem ff15_far {x y : List Int} (p k : Int) : ∀ i : Nat, i ≤ x.length + 1 → (ff15 (ahead x y) y.length ((y.length : Int) - x.length) p k i = -1 ∨ (inr_ x y k (ff15 (ahead x y) y.length ((y.length : Int) - x.length) p k i) ∧ VV x y k (ff15 (ahead x y) y.length ((y.length : Int) - x.length) p k i) ≤ left_ x y p k)) ∧
    ∀ j, inr_ x y k j → j - k < i → VV x y k j ≤ left_ x y p k → j ≤ ff15 (ahead x y) y.length ((y.length : Int) - x.length) p k i
  | 0, _ => ⟨.inl rfl, fun j hj h => by have := hj.2.2.1; omega⟩
  | i + 1, hi => by
    obtain ⟨h1, h2⟩ := ff15_far (x := x) (y := y) p k i (by omega)
    have hbd := ff15_bd (ahead x y) y.length ((y.length : Int) - x.length) p k i
    rw [ff15]
    generalize ff15 (ahead x y) y.length ((y.length : Int) - x.length) p k i = f at h1 h2 hbd
    by_cases c1 : (i : Int) + k < 0
    · rw [if_pos c1]
      exact ⟨h1, fun j hj hlt hv => h2 j hj (by have := hj.1; omega) hv⟩
    rw [if_neg c1]
    by_cases c2 : (y.length : Int) < (i : Int) + k
    · rw [if_pos c2]
      exact ⟨h1, fun j hj hlt hv => h2 j hj (by have := hj.2.1; omega) hv⟩
    rw [if_neg c2]
    obtain ⟨jn, hjn⟩ := Int.eq_ofNat_of_zero_le (Int.not_lt.mp c1)
    have hin : inr_ x y k ((i : Int) + k) := ⟨by omega, by omega, by omega, by omega⟩
    have hval : rd (rd_L2 (ahead x y) (i : Int)) ((i : Int) + k) = (H x y i jn : Int) := by
      rw [rd_L2_ahead x y i (by omega), rd_seq _ (show jn < y.length + 1 by omega) hjn]
    have hVV : VV x y k ((i : Int) + k) = (i : Int) - H x y i jn := by
      rw [VV_at (p := i) (q := jn) (by omega) hjn]; rfl
    rw [hval]
    have hiff : ((i : Int) - H x y i jn + mx (k - ((y.length : Int) - x.length)) 0 ≤ p) ↔ VV x y k ((i : Int) + k) ≤ left_ x y p k := by
      rw [hVV, left_mx]; omega
    by_cases c3 : (i : Int) - H x y i jn + mx (k - ((y.length : Int) - x.length)) 0 ≤ p
    · rw [if_pos c3]
      have hv3 := hiff.1 c3
      unfold mx
      split
      · next hlt =>
        refine ⟨.inr ⟨hin, hv3⟩, fun j hj hlt' hv => ?_⟩
        omega
      · next hlt =>
        refine ⟨h1, fun j hj hlt' hv => ?_⟩
        by_cases e : j - k = i
        · omega
        · exact h2 j hj (by omega) hv
    · rw [if_neg c3]
      refine ⟨h1, fun j hj hlt hv => ?_⟩
      by_cases e : j - k = i
      · obtain rfl : j = (i : Int) + k := by omega
        exact absurd (hiff.2 hv) c3
      · exact h2 j hj (by omega) hv
theorem ff15_isFar (x y : List Int) (p k : Int) : IsFar x y k (left_ x y p k) (ff15 (ahead x y) y.length ((y.length : Int) - x.length) p k (x.length + 1)) := by
  obtain ⟨h1, h2⟩ := ff15_far (x := x) (y := y) p k (x.length + 1) (Nat.le_refl _)
  exact ⟨h1, fun j hj hv => h2 j hj (by have := hj.2.2.2; omega) hv⟩
theorem ls15_at (t : List (List Int)) (n m p : Nat) : ∀ q i : Nat, i < q → (ls15 t n m p q).getD i 0 = ff15 t m ((m : Int) - n) p ((i : Int) - p) (n + 1)
  | 0, _, h => by omega
  | q + 1, i, h => by
    have hl := ls15_len t n m p q
    rw [ls15]
    by_cases e : i = q
    · subst e
      rw [List.getD_eq_getElem?_getD, List.getElem?_append_right (by omega), hl, Nat.sub_self]; rfl
    · rw [List.getD_eq_getElem?_getD, List.getElem?_append_left (by omega), ← List.getD_eq_getElem?_getD]
      exact ls15_at t n m p q i (by omega)
theorem ls15_frl {x y : List Int} (hxy : x.length ≤ y.length) (p : Nat) (hp : p ≤ x.length) : ls15 (ahead x y) x.length y.length p (y.length - x.length + 2 * p + 1) = frl x y p := by
  have l1 := ls15_len (ahead x y) x.length y.length p (y.length - x.length + 2 * p + 1)
  have l2 := frl_len x y p
  refine List.ext_getElem (by omega) fun i h1 h2 => ?_
  have e1 := ls15_at (ahead x y) x.length y.length p (y.length - x.length + 2 * p + 1) i (by omega)
  have e2 := frl_far hxy p i hp (by omega)
  have e3 := ff15_isFar x y p ((i : Int) - p)
  rw [List.getD_eq_getElem?_getD, List.getElem?_eq_getElem h1] at e1
  rw [List.getD_eq_getElem?_getD, List.getElem?_eq_getElem h2] at e2
  simp only [Option.getD_some] at e1 e2
  rw [e1]
  exact IsFar.unique e3 e2
theorem Far15_g_eq {x y : List Int} (hxy : x.length ≤ y.length) (hy : y.length ≤ 1000) (p : Int) : ∃ r : List Int, r.length ≤ 10000 ∧ onp_Far.g x y p = some r ∧ Ev (fun k => tattingref15_Far.g k x y p) r := by
  unfold onp_Far.g tattingref15_Far.g
  by_cases h1 : p < 0
  · simp only [if_pos h1]
    exact ⟨[], by simp, rfl, Ev.now _⟩
  simp only [if_neg h1]
  by_cases h2 : (x.length : Int) < p
  · simp only [if_pos h2]
    exact ⟨[], by simp, rfl, Ev.now _⟩
  simp only [if_neg h2]
  refine ⟨frl x y p.toNat, by rw [frl_len]; omega, rfl, ?_⟩
  refine Ev.bind (tattingref7_Ahead_eq x y (by omega) (by omega)) (Ev.congr (fun k => ?_) (Ev.now _))
  rw [if_pos ((tab15b_iff _ _ _).2 (tab15_ahead x y (by omega))), ls15_frl hxy p.toNat (by omega)]
theorem Far15_eq (x y : List Int) (hx : x.length ≤ 1000) (hy : y.length ≤ 1000) (p : Int) : ∃ r : List Int, r.length ≤ 10000 ∧ (∀ k, onp_Far.f k x y p = some r) ∧ Ev (fun k => tattingref15_Far.f k x y p) r := by
  unfold onp_Far.f tattingref15_Far.f
  simp only [if_pos (show x.length ≤ 1000000 ∧ y.length ≤ 1000000 by omega)]
  by_cases h : y.length < x.length
  · simp only [if_pos h]
    obtain ⟨r, h1, h2, h3⟩ := Far15_g_eq (x := y) (y := x) (by omega) hx p
    exact ⟨r, h1, fun _ => h2, h3⟩
  · simp only [if_neg h]
    obtain ⟨r, h1, h2, h3⟩ := Far15_g_eq (x := x) (y := y) (by omega) hy p
    exact ⟨r, h1, fun _ => h2, h3⟩

def few (a : List Int) (n : Int) : List Int := a.map (· % n)
theorem few_length (a : List Int) (n : Int) : (few a n).length = a.length := by simp [few]
theorem tmod_few (x n : Int) (hn : 0 < n) : (if Int.tmod x n < 0 then Int.tmod x n + n else Int.tmod x n) = x % n := by
  rw [Int.tmod_eq_emod]
  have h1 := Int.emod_nonneg x (show n ≠ 0 by omega)
  have h2 := Int.emod_lt_of_pos x hn
  have h3 : (n.natAbs : Int) = n := by omega
  by_cases h : 0 ≤ x ∨ n ∣ x
  · rw [if_pos h]; rw [if_neg (by omega)]; omega
  · rw [if_neg h, h3]
    have h4 : x % n ≠ 0 := fun e => h (.inr (Int.dvd_of_emod_eq_zero e))
    rw [if_pos (by omega)]; omega
theorem few_take (a : List Int) (n : Int) (i : Nat) (h : i < a.length) : few (a.take (i + 1)) n = few (a.take i) n ++ [a.getD i 0 % n] := by
  rw [take_getD h]; simp [few]
theorem tattingref1_Few_l0 (a : List Int) (n : Int) (hn : 0 < n) (hn' : n ≤ 1000000) (ha : a.length ≤ 1000000) : ∀ (d k i : Nat), i + d = a.length → d < k →
    tattingref1_Few.l0 k a n (few (a.take i) n) i = some (few a n) := by
  intro d
  induction d with
  | zero =>
    intro k i hi hk
    obtain ⟨k, rfl⟩ : ∃ m, k = m + 1 := ⟨k - 1, by omega⟩
    simp (disch := omega) only [tattingref1_Few.l0, if_neg]
    rw [List.take_of_length_le (by omega)]
  | succ d ih =>
    intro k i hi hk
    obtain ⟨k, rfl⟩ : ∃ m, k = m + 1 := ⟨k - 1, by omega⟩
    have e1 : rd a (i : Int) = a.getD i 0 := rfl
    have hl : (few (a.take i) n).length ≤ a.length := by rw [few_length]; simp; omega
    have h1 := Int.emod_nonneg (a.getD i 0) (show n ≠ 0 by omega)
    have h2 := Int.emod_lt_of_pos (a.getD i 0) hn
    have h3 := tmod_few (a.getD i 0) n hn
    have h4 := ih k (i + 1) (by omega) (by omega)
    rw [few_take a n i (by omega)] at h4
    simp only [Int.natCast_add, Int.cast_ofNat_Int] at h4
    simp (disch := omega) only [tattingref1_Few.l0, if_pos, if_neg, e1, wr]
    split
    · rename_i hlt
      rw [if_pos hlt] at h3
      rw [h3]; exact h4
    · rename_i hlt
      rw [if_neg hlt] at h3
      rw [h3]; exact h4
theorem tattingref1_Few_eq (a : List Int) (n : Int) (hn : 0 < n) (hn' : n ≤ 1000000) (ha : a.length ≤ 1000000) (k : Nat) (hk : a.length < k) : tattingref1_Few.f k a n = some (few a n) := by
  have := tattingref1_Few_l0 a n hn hn' ha a.length k 0 (by omega) hk
  unfold tattingref1_Few.f
  simpa [few] using this

theorem tattingref1_SameInts_l0 (a b : List Int) (ha : a.length ≤ 1000000) (hl : a.length = b.length) : ∀ (d k i : Nat), i + d = a.length → d < k →
    tattingref1_SameInts.l0 k a b i = some (decide (a.drop i = b.drop i)) := by
  intro d
  induction d with
  | zero =>
    intro k i hi hk
    obtain ⟨k, rfl⟩ : ∃ m, k = m + 1 := ⟨k - 1, by omega⟩
    simp (disch := omega) only [tattingref1_SameInts.l0, if_neg]
    rw [List.drop_eq_nil_of_le (by omega), List.drop_eq_nil_of_le (by omega)]; simp
  | succ d ih =>
    intro k i hi hk
    obtain ⟨k, rfl⟩ : ∃ m, k = m + 1 := ⟨k - 1, by omega⟩
    have e1 : rd a (i : Int) = a.getD i 0 := rfl
    have e2 : rd b (i : Int) = b.getD i 0 := rfl
    simp (disch := omega) only [tattingref1_SameInts.l0, if_pos, e1, e2, wr]
    have h4 := ih k (i + 1) (by omega) (by omega)
    simp only [Int.natCast_add, Int.cast_ofNat_Int] at h4
    rw [h4, drop_getD (show i < a.length by omega), drop_getD (show i < b.length by omega)]
    by_cases h : a.getD i 0 = b.getD i 0
    · rw [if_pos h]; simp only [List.cons.injEq, h, true_and]
    · rw [if_neg h]; simp only [List.cons.injEq]; rw [decide_eq_false (fun e => h e.1)]
theorem tattingref1_SameInts_eq (a b : List Int) (ha : a.length ≤ 1000000) (k : Nat) (hk : a.length < k) : tattingref1_SameInts.f k a b = some (decide (a = b)) := by
  unfold tattingref1_SameInts.f
  by_cases h : (a.length : Int) = b.length
  · rw [if_pos h]
    have := tattingref1_SameInts_l0 a b ha (by omega) a.length k 0 (by omega) hk
    simpa using this
  · rw [if_neg h, decide_eq_false]
    rintro rfl; exact h rfl

theorem awake_ev : ∃ K, tattinglaw18_awake.f K = some true := ⟨40, by decide +kernel⟩
theorem law_OnpFar : tattinglaw18_OnpFar.Pure := by
  intro a b p _ _ _ _ _ _ _
  have haw : Ev tattinglaw18_awake.f true := by
    obtain ⟨K, h⟩ := awake_ev
    exact Ev.of tattinglaw18_awake.mono h
  refine Ev.rounds (g := fun K => tattinglaw18_OnpFar.f K a b p) ?_
  unfold tattinglaw18_OnpFar.f
  refine Ev.bind haw ?_
  simp only [itt, ifT]
  by_cases ha : (a.length : Int) > 25
  · refine Ev.step (f := fun _ => some true) (fun K => ?_) (Ev.now _)
    rw [if_pos ha, tattinglaw18_OnpFar.j0, itt]
  by_cases hb : (b.length : Int) > 25
  · refine Ev.step (f := fun _ => some true) (fun K => ?_) (Ev.now _)
    rw [if_neg ha, decide_eq_true hb, tattinglaw18_OnpFar.j0, itt]
  simp only [if_neg ha, decide_eq_false hb]
  have la := few_length a 3
  have lb := few_length b 3
  have fa := fun k hk => tattingref1_Few_eq a 3 (by omega) (by omega) (by omega) k hk
  have fb := fun k hk => tattingref1_Few_eq b 3 (by omega) (by omega) (by omega) k hk
  generalize few a 3 = x at *
  generalize few b 3 = y at *
  obtain ⟨r1, l1, f1, K1, g1⟩ := Far15_eq x y (by omega) (by omega) p
  obtain ⟨r2, l2, f2, K2, g2⟩ := Far15_eq x y (by omega) (by omega) (wrap64 (Int.tmod (IntKind.u64.wrap p) 6))
  refine ⟨20000 + K1 + K2, fun K hK => ?_⟩
  obtain ⟨K, rfl⟩ : ∃ m, K = m + 1 := ⟨K - 1, by omega⟩
  have e1 : tattingref15_Far.f K x y p = some _ := g1 K (by omega)
  have e2 : tattingref15_Far.f K x y (wrap64 (Int.tmod (IntKind.u64.wrap p) 6)) = some _ := g2 K (by omega)
  show tattinglaw18_OnpFar.j0 (K + 1) a b p false = some true
  rw [tattinglaw18_OnpFar.j0, ift, fa K (by omega), bs, fb K (by omega), bs, f1 K, bs, e1, bs, tattingref1_SameInts_eq r1 r1 (by omega) K (by omega), bs, decide_eq_true rfl, itt, f2 K, bs, e2, bs, tattingref1_SameInts_eq r2 r2 (by omega) K (by omega), bs, decide_eq_true rfl]

theorem OnpFar : tattinglaw18_OnpFar.Pure := law_OnpFar

end Go.Proofs.Yteijoilcffhomaa.Pure
namespace Go.Proofs.Yteijoilcffhomaa.PrintWords
/-- The row's word under the name by which the row calls it. -/
abbrev sized_ints := @Go.Proofs.YteijoilcffhomaaW.PrintWords.sized_ints
end Go.Proofs.Yteijoilcffhomaa.PrintWords
