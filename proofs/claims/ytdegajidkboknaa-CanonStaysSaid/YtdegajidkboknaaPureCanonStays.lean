/- Pushed lists stay, the least list is moved by nothing: the law CanonStays holds, with no condition. -/
import Derived.Test.YtdegajidkboknaaPCanonStaysx10
import Derived.Test.YtdegajidkboknaaWSized
namespace Go.Proofs.Ytdegajidkboknaa.Pure
open Go.RowKit Go.Proofs.Ytdegajidkboknaa.PCanonStays Go.Proofs.YtdegajidkboknaaW.PrintWords Go.Proofs.YtdegajidkboknaaW.PrintLast Go.Proofs.YtdegajidkboknaaW.PrintMore
set_option linter.unusedVariables false
set_option linter.unusedSimpArgs false

/-! Words for the pure side: whole numbers that do not wrap, reads of lists. -/
theorem wr {x : Int} (h : -9223372036854775808 ≤ x) (h' : x < 9223372036854775808) : wrap64 x = x := by unfold wrap64; omega
theorem rd_nat (xs : List Int) (n : Nat) : rd xs (n : Int) = xs.getD n 0 := rfl
theorem rd_at {xs : List Int} {i : Int} {n : Nat} (h : i = (n : Int)) : rd xs i = xs.getD n 0 := by subst h; rfl
theorem drop_getD {xs : List Int} {i : Nat} (h : i < xs.length) : xs.drop i = xs.getD i 0 :: xs.drop (i + 1) := by
  rw [List.drop_eq_getElem_cons h]; simp [List.getD_eq_getElem?_getD, h]
theorem take_getD {xs : List Int} {i : Nat} (h : i < xs.length) : xs.take (i + 1) = xs.take i ++ [xs.getD i 0] := by
  rw [List.take_succ_eq_append_getElem h]; simp [List.getD_eq_getElem?_getD, h]

theorem lz_bind {α β : Type} {a a' : Option α} {f : α → Option β} (h : a = a') : a.bind f = a'.bind f := by rw [h]
theorem lz_ite {α : Type} {c c' : Prop} [s : Decidable c] [s' : Decidable c'] {t e : α} (h : c = c') : ite c t e = ite c' t e := by
  subst h; rw [Subsingleton.elim s s']
attribute [local congr] lz_bind lz_ite
theorem bs {α β : Type} (a : α) (f : α → Option β) : (some a).bind f = f a := by simp
theorem itt {α : Type} (t e : α) : (if (true = true) then t else e) = t := by simp
theorem ift {α : Type} (t e : α) : (if (false = true) then t else e) = e := by simp
theorem ifT {α : Type} (t e : α) : (if True then t else e) = t := by simp
theorem ifF {α : Type} (t e : α) : (if False then t else e) = e := by simp

theorem u8_wf {x : Int} (h : (Lit.int .u8 x).wf = true) : 0 ≤ x ∧ x < 256 := by
  have h' := h
  simp only [Lit.wf, Bool.and_eq_true, decide_eq_true_eq] at h'
  have e1 : IntKind.u8.min = 0 := by rfl
  have e2 : IntKind.u8.max = 255 := by rfl
  rw [e1, e2] at h'
  omega
theorem i64_wf {x : Int} (h : (Lit.int .i64 x).wf = true) : -9223372036854775808 ≤ x ∧ x < 9223372036854775808 := by
  have h' := h
  simp only [Lit.wf, Bool.and_eq_true, decide_eq_true_eq] at h'
  have e1 : IntKind.i64.min = -9223372036854775808 := by decide
  have e2 : IntKind.i64.max = 9223372036854775807 := by decide
  rw [e1, e2] at h'
  omega
theorem tmod_nat (x n : Nat) : Int.tmod (x : Int) (n : Int) = ((x % n : Nat) : Int) := by
  rw [Int.tmod_eq_emod_of_nonneg (by omega)]; exact (Int.natCast_emod _ _).symm
/-- A number within a list's places and its end. -/
theorem place (x : Int) (n : Nat) (h : 0 ≤ x ∧ x < 256) (hn : n ≤ 1000000) : ∃ p : Nat, p ≤ n ∧ Int.tmod (wrap64 x) (wrap64 ((n : Int) + 1)) = p := by
  obtain ⟨y, rfl⟩ := Int.eq_ofNat_of_zero_le h.1
  rw [wr (by omega) (by omega), wr (by omega) (by omega)]
  refine ⟨y % (n + 1), by have := Nat.mod_lt y (show 0 < n + 1 by omega); omega, ?_⟩
  have := tmod_nat y (n + 1)
  simpa using this

/-! The longest common subsequence of two lists of whole numbers: no program in sight. -/

def lcs : List Int → List Int → Nat
  | [], _ => 0
  | _ :: _, [] => 0
  | a :: xt, b :: yt => if a = b then lcs xt yt + 1 else max (lcs xt (b :: yt)) (lcs (a :: xt) yt)
termination_by xs ys => xs.length + ys.length

@[simp] theorem lcs_nil_left (ys : List Int) : lcs [] ys = 0 := by cases ys <;> simp [lcs]
@[simp] theorem lcs_nil_right (xs : List Int) : lcs xs [] = 0 := by cases xs <;> simp [lcs]
theorem lcs_cons (a b : Int) (xt yt : List Int) : lcs (a :: xt) (b :: yt) = if a = b then lcs xt yt + 1 else max (lcs xt (b :: yt)) (lcs (a :: xt) yt) := by
  rw [lcs]

theorem lcs_ub (xs ys : List Int) : ∀ s : List Int, s.Sublist xs → s.Sublist ys → s.length ≤ lcs xs ys := by
  induction xs, ys using lcs.induct with
  | case1 ys => intro s h _; simp at h; subst h; simp
  | case2 a xt => intro s _ h; simp at h; subst h; simp
  | case3 xt b yt ih =>
    intro s h1 h2
    rw [lcs_cons, if_pos rfl]
    cases s with
    | nil => simp
    | cons c s =>
      have h1' : s.Sublist xt := by
        cases h1 with
        | cons _ h => exact (List.sublist_cons_self c s).trans h
        | cons_cons _ h => exact h
      have h2' : s.Sublist yt := by
        cases h2 with
        | cons _ h => exact (List.sublist_cons_self c s).trans h
        | cons_cons _ h => exact h
      have := ih s h1' h2'
      simp; omega
  | case4 a xt b yt hne ih1 ih2 =>
    intro s h1 h2
    rw [lcs_cons, if_neg hne]
    cases s with
    | nil => simp
    | cons c s =>
      by_cases hc : c = a
      · subst hc
        have h2' : (c :: s).Sublist yt := by
          cases h2 with
          | cons _ h => exact h
          | cons_cons _ h => exact absurd rfl hne
        have := ih2 _ h1 h2'
        omega
      · have h1' : (c :: s).Sublist xt := by
          cases h1 with
          | cons _ h => exact h
          | cons_cons _ h => exact absurd rfl hc
        have := ih1 _ h1' h2
        omega

theorem lcs_ex (xs ys : List Int) : ∃ s : List Int, s.Sublist xs ∧ s.Sublist ys ∧ s.length = lcs xs ys := by
  induction xs, ys using lcs.induct with
  | case1 ys => exact ⟨[], by simp⟩
  | case2 a xt => exact ⟨[], by simp⟩
  | case3 xt b yt ih =>
    obtain ⟨s, h1, h2, h3⟩ := ih
    exact ⟨b :: s, h1.cons_cons b, h2.cons_cons b, by rw [lcs_cons, if_pos rfl]; simp [h3]⟩
  | case4 a xt b yt hne ih1 ih2 =>
    rw [lcs_cons, if_neg hne]
    by_cases h : lcs (a :: xt) yt ≤ lcs xt (b :: yt)
    · obtain ⟨s, h1, h2, h3⟩ := ih1
      exact ⟨s, h1.cons a, h2, by omega⟩
    · obtain ⟨s, h1, h2, h3⟩ := ih2
      exact ⟨s, h1, h2.cons b, by omega⟩

theorem lcs_unique {xs ys : List Int} {n : Nat} (h : ∃ s : List Int, s.Sublist xs ∧ s.Sublist ys ∧ s.length = n) (h' : ∀ s : List Int, s.Sublist xs → s.Sublist ys → s.length ≤ n) : lcs xs ys = n := by
  obtain ⟨s, h1, h2, h3⟩ := h
  obtain ⟨t, h4, h5, h6⟩ := lcs_ex xs ys
  have := lcs_ub xs ys s h1 h2
  have := h' t h4 h5
  omega

theorem lcs_comm (xs ys : List Int) : lcs xs ys = lcs ys xs := by
  obtain ⟨s, h1, h2, h3⟩ := lcs_ex ys xs
  exact lcs_unique ⟨s, h2, h1, h3⟩ fun t a b => lcs_ub ys xs t b a

theorem lcs_reverse (xs ys : List Int) : lcs xs.reverse ys.reverse = lcs xs ys := by
  obtain ⟨s, h1, h2, h3⟩ := lcs_ex xs ys
  refine lcs_unique ⟨s.reverse, h1.reverse, h2.reverse, by simp [h3]⟩ fun t a b => ?_
  have := lcs_ub xs ys t.reverse (by simpa using a.reverse) (by simpa using b.reverse)
  simpa using this

theorem lcs_mono {xs xs' ys ys' : List Int} (h : xs.Sublist xs') (h' : ys.Sublist ys') : lcs xs ys ≤ lcs xs' ys' := by
  obtain ⟨s, h1, h2, h3⟩ := lcs_ex xs ys
  have := lcs_ub xs' ys' s (h1.trans h) (h2.trans h')
  omega

theorem lcs_le_left (xs ys : List Int) : lcs xs ys ≤ xs.length := by
  obtain ⟨s, h1, _, h3⟩ := lcs_ex xs ys
  have := h1.length_le
  omega
theorem lcs_le_right (xs ys : List Int) : lcs xs ys ≤ ys.length := by rw [lcs_comm]; exact lcs_le_left _ _

theorem lcs_self (xs : List Int) : lcs xs xs = xs.length := by
  have := lcs_ub xs xs xs (List.Sublist.refl _) (List.Sublist.refl _)
  have := lcs_le_left xs xs
  omega

theorem lcs_cons_same (a : Int) (xs ys : List Int) : lcs (a :: xs) (a :: ys) = lcs xs ys + 1 := by rw [lcs_cons, if_pos rfl]

theorem lcs_cons_le (a : Int) (xs ys : List Int) : lcs (a :: xs) ys ≤ lcs xs ys + 1 := by
  obtain ⟨s, h1, h2, h3⟩ := lcs_ex (a :: xs) ys
  cases s with
  | nil => simp at h3; omega
  | cons c s =>
    have h1' : s.Sublist xs := by
      cases h1 with
      | cons _ h => exact (List.sublist_cons_self c s).trans h
      | cons_cons _ h => exact h
    have := lcs_ub xs ys s h1' ((List.sublist_cons_self c s).trans h2)
    simp at h3; omega
theorem lcs_cons_le_right (b : Int) (xs ys : List Int) : lcs xs (b :: ys) ≤ lcs xs ys + 1 := by
  rw [lcs_comm, lcs_comm xs ys]; exact lcs_cons_le b ys xs

theorem lcs_snoc_same (a : Int) (xs ys : List Int) : lcs (xs ++ [a]) (ys ++ [a]) = lcs xs ys + 1 := by
  rw [← lcs_reverse, ← lcs_reverse xs ys]; simp [lcs_cons_same]
theorem lcs_snoc (a b : Int) (xs ys : List Int) : lcs (xs ++ [a]) (ys ++ [b]) = if a = b then lcs xs ys + 1 else max (lcs xs (ys ++ [b])) (lcs (xs ++ [a]) ys) := by
  rw [← lcs_reverse, ← lcs_reverse xs ys, ← lcs_reverse xs (ys ++ [b]), ← lcs_reverse (xs ++ [a]) ys]
  simp [lcs_cons]
theorem lcs_snoc_le (a : Int) (xs ys : List Int) : lcs (xs ++ [a]) ys ≤ lcs xs ys + 1 := by
  rw [← lcs_reverse, ← lcs_reverse xs ys]; simp only [List.reverse_append, List.reverse_cons, List.reverse_nil, List.nil_append, List.singleton_append]; exact lcs_cons_le _ _ _

/-- Cut both lists anywhere: never more together. -/
theorem lcs_append_ge (xs xs' ys ys' : List Int) : lcs xs ys + lcs xs' ys' ≤ lcs (xs ++ xs') (ys ++ ys') := by
  obtain ⟨s, h1, h2, h3⟩ := lcs_ex xs ys
  obtain ⟨t, h4, h5, h6⟩ := lcs_ex xs' ys'
  have := lcs_ub (xs ++ xs') (ys ++ ys') (s ++ t) (h1.append h4) (h2.append h5)
  simp at this; omega

theorem sublist_append_split {s xs ys : List Int} (h : s.Sublist (xs ++ ys)) : ∃ s1 s2, s = s1 ++ s2 ∧ s1.Sublist xs ∧ s2.Sublist ys := by
  obtain ⟨l1, l2, rfl, h1, h2⟩ := List.sublist_append_iff.1 h
  exact ⟨l1, l2, rfl, h1, h2⟩

/-- Cut the first list: somewhere in the second one both together are just xt much. -/
theorem lcs_cut (xs xs' ys : List Int) : ∃ j, j ≤ ys.length ∧ lcs (xs ++ xs') ys = lcs xs (ys.take j) + lcs xs' (ys.drop j) := by
  obtain ⟨s, h1, h2, h3⟩ := lcs_ex (xs ++ xs') ys
  obtain ⟨s1, s2, rfl, h4, h5⟩ := sublist_append_split h1
  obtain ⟨l1, l2, rfl, h6, h7⟩ := List.append_sublist_iff.1 h2
  refine ⟨l1.length, by simp, ?_⟩
  have a1 := lcs_ub xs l1 s1 h4 h6
  have a2 := lcs_ub xs' l2 s2 h5 h7
  have a3 := lcs_append_ge xs xs' l1 l2
  simp only [List.take_left, List.drop_left]
  simp at h3; omega

/-- The same ahead of both: xt much more. -/
theorem lcs_prefix (p xs ys : List Int) : lcs (p ++ xs) (p ++ ys) = p.length + lcs xs ys := by
  induction p with
  | nil => simp
  | cons a p ih => simp only [List.cons_append, lcs_cons_same, ih, List.length_cons]; omega
theorem lcs_suffix (p xs ys : List Int) : lcs (xs ++ p) (ys ++ p) = p.length + lcs xs ys := by
  rw [← lcs_reverse, ← lcs_reverse xs ys]; simp [lcs_prefix]

/-- The distance. -/
def dist (xs ys : List Int) : Nat := xs.length + ys.length - 2 * lcs xs ys
theorem dist_add (xs ys : List Int) : dist xs ys + 2 * lcs xs ys = xs.length + ys.length := by
  have := lcs_le_left xs ys
  have := lcs_le_right xs ys
  unfold dist; omega
theorem dist_comm (xs ys : List Int) : dist xs ys = dist ys xs := by
  have := dist_add xs ys
  have := dist_add ys xs
  have := lcs_comm xs ys
  omega
theorem lcs_full {xs ys : List Int} (h : lcs xs ys = xs.length) (h' : lcs xs ys = ys.length) : xs = ys := by
  obtain ⟨s, h1, h2, h3⟩ := lcs_ex xs ys
  have e1 := h1.eq_of_length (by omega)
  have e2 := h2.eq_of_length (by omega)
  rw [← e1, ← e2]
theorem dist_zero_iff (xs ys : List Int) : dist xs ys = 0 ↔ xs = ys := by
  constructor
  · intro h
    have := dist_add xs ys
    have := lcs_le_left xs ys
    have := lcs_le_right xs ys
    exact lcs_full (by omega) (by omega)
  · rintro rfl
    have := dist_add xs xs
    have := lcs_self xs
    omega

/-- Two parts of one list have at least so much in common. -/
theorem sublist_both : ∀ (z s t : List Int), s.Sublist z → t.Sublist z → ∃ u : List Int, u.Sublist s ∧ u.Sublist t ∧ s.length + t.length ≤ z.length + u.length := by
  intro z
  induction z with
  | nil => intro s t h1 h2; simp at h1 h2; subst h1; subst h2; exact ⟨[], by simp⟩
  | cons c z ih =>
    intro s t h1 h2
    cases h1 with
    | cons _ h1 =>
      cases h2 with
      | cons _ h2 => obtain ⟨u, a, b, l⟩ := ih s t h1 h2; exact ⟨u, a, b, by simp; omega⟩
      | cons_cons _ h2 => rename_i t; obtain ⟨u, a, b, l⟩ := ih s t h1 h2; exact ⟨u, a, b.cons _, by simp; omega⟩
    | cons_cons _ h1 =>
      rename_i s
      cases h2 with
      | cons _ h2 => obtain ⟨u, a, b, l⟩ := ih s t h1 h2; exact ⟨u, a.cons _, b, by simp; omega⟩
      | cons_cons _ h2 => rename_i t; obtain ⟨u, a, b, l⟩ := ih s t h1 h2; exact ⟨c :: u, a.cons_cons _, b.cons_cons _, by simp; omega⟩
theorem dist_triangle (xs zs ys : List Int) : dist xs ys ≤ dist xs zs + dist zs ys := by
  obtain ⟨s, h1, h2, h3⟩ := lcs_ex xs zs
  obtain ⟨t, h4, h5, h6⟩ := lcs_ex zs ys
  obtain ⟨u, a, b, l⟩ := sublist_both zs s t h2 h4
  have := lcs_ub xs ys u (a.trans h1) (b.trans h5)
  have := dist_add xs ys
  have := dist_add xs zs
  have := dist_add zs ys
  omega


/-! Lists told place by place. -/
def seq {α : Type} (n : Nat) (F : Nat → α) : List α := (List.range n).map F
def upd {α : Type} (F : Nat → α) (i : Nat) (v : α) : Nat → α := fun j => if j = i then v else F j
theorem upd_same {α : Type} (F : Nat → α) (i : Nat) (v : α) : upd F i v i = v := by simp [upd]
theorem upd_ne {α : Type} (F : Nat → α) {i j : Nat} (v : α) (h : j ≠ i) : upd F i v j = F j := by simp [upd, h]
theorem seq_length {α : Type} (n : Nat) (F : Nat → α) : (seq n F).length = n := by simp [seq]
theorem seq_getD {α : Type} {n : Nat} (F : Nat → α) {i : Nat} (h : i < n) (d : α) : (seq n F).getD i d = F i := by simp [seq, h, List.getD_eq_getElem?_getD]
theorem seq_getElem {α : Type} {n : Nat} (F : Nat → α) {i : Nat} (h : i < (seq n F).length) : (seq n F)[i] = F i := by simp [seq]
theorem seq_ext {α : Type} {n : Nat} {F G : Nat → α} (h : ∀ i, i < n → F i = G i) : seq n F = seq n G := by
  unfold seq; exact List.map_congr_left fun i hi => h i (List.mem_range.1 hi)
theorem seq_set {α : Type} {n : Nat} (F : Nat → α) (i : Nat) (v : α) : (seq n F).set i v = seq n (upd F i v) := by
  apply List.ext_getElem
  · simp [seq_length]
  · intro j h1 h2
    rw [List.getElem_set, seq_getElem, seq_getElem]
    unfold upd
    by_cases h : i = j
    · rw [if_pos h, if_pos h.symm]
    · rw [if_neg h, if_neg (fun e => h e.symm)]
theorem seq_const {α : Type} (n : Nat) (v : α) : List.replicate n v = seq n (fun _ => v) := by
  apply List.ext_getElem
  · simp [seq_length]
  · intro j h1 h2; simp [seq]
theorem seq_snoc {α : Type} (n : Nat) (F : Nat → α) : seq (n + 1) F = seq n F ++ [F n] := by simp [seq, List.range_succ]
theorem seq_of {α : Type} (xs : List α) (d : α) : xs = seq xs.length (fun i => xs.getD i d) := by
  apply List.ext_getElem
  · simp [seq_length]
  · intro j h1 h2; rw [seq_getElem]; simp [List.getD_eq_getElem?_getD, h1]
theorem seq_inj {α : Type} {n : Nat} {F G : Nat → α} (h : seq n F = seq n G) : ∀ i, i < n → F i = G i := by
  intro i hi
  have := congrArg (fun l => l[i]?) h
  simpa [seq, hi] using this
theorem rd_seq {n : Nat} (F : Nat → Int) {i : Int} {p : Nat} (h : p < n) (e : i = (p : Int)) : rd (seq n F) i = F p := by
  subst e; rw [rd_nat, seq_getD F h]

theorem rd_L2_seq {n : Nat} (F : Nat → List Int) {i : Int} {p : Nat} (h : p < n) (e : i = (p : Int)) : rd_L2 (seq n F) i = F p := by
  subst e; unfold rd_L2; rw [Int.toNat_natCast, seq_getD F h]

/-- What both lists have in common behind two places. -/
def T (a b : List Int) (i j : Nat) : Nat := lcs (a.drop i) (b.drop j)
theorem T_out_left {a b : List Int} {i j : Nat} (h : a.length ≤ i) : T a b i j = 0 := by unfold T; rw [List.drop_eq_nil_of_le h]; simp
theorem T_out_right {a b : List Int} {i j : Nat} (h : b.length ≤ j) : T a b i j = 0 := by unfold T; rw [List.drop_eq_nil_of_le h]; simp
theorem T_step {a b : List Int} {i j : Nat} (h : i < a.length) (h' : j < b.length) : T a b i j = if a.getD i 0 = b.getD j 0 then T a b (i + 1) (j + 1) + 1 else max (T a b (i + 1) j) (T a b i (j + 1)) := by
  unfold T; rw [drop_getD h, drop_getD h', lcs_cons]
theorem T_le_left (a b : List Int) (i j : Nat) : T a b i j ≤ a.length - i := by have := lcs_le_left (a.drop i) (b.drop j); unfold T; simpa using this
theorem T_le_right (a b : List Int) (i j : Nat) : T a b i j ≤ b.length - j := by have := lcs_le_right (a.drop i) (b.drop j); unfold T; simpa using this
theorem T_zero (a b : List Int) : T a b 0 0 = lcs a b := rfl
theorem T_down (a b : List Int) (i j : Nat) : T a b (i + 1) j ≤ T a b i j := by
  unfold T; refine lcs_mono ?_ (List.Sublist.refl _)
  rw [← List.drop_drop]; exact List.drop_sublist _ _
theorem T_right (a b : List Int) (i j : Nat) : T a b i (j + 1) ≤ T a b i j := by
  unfold T; refine lcs_mono (List.Sublist.refl _) ?_
  rw [← List.drop_drop]; exact List.drop_sublist _ _
/-- The whole table. -/
def behind (a b : List Int) : List (List Int) := seq (a.length + 1) fun i => seq (b.length + 1) fun j => (T a b i j : Int)

theorem grid_table_l0 (n m : Nat) (hn : n ≤ 100000) (hm : m ≤ 100000) : ∀ (d i : Nat) (F : Nat → List Int), i + d = n + 1 → (∀ j, j < i → F j = seq (m + 1) fun _ => 0) →
    Ev (fun k => grid_table.l0 k m (seq (n + 1) F) ((n + 1 : Nat) : Int) i) (seq (n + 1) fun _ => seq (m + 1) fun _ => 0) := by
  intro d
  induction d with
  | zero =>
    intro i F hi hF
    refine Ev.step (f := fun _ => some (seq (n + 1) F)) (fun k => ?_) ?_
    · simp (disch := omega) only [grid_table.l0, if_neg]
    · rw [seq_ext (G := fun _ => seq (m + 1) fun _ => (0 : Int)) (fun j hj => hF j (by omega))]
      exact Ev.now _
  | succ d ih =>
    intro i F hi hF
    refine Ev.step (fun k => ?_) (ih (i + 1) (upd F i (seq (m + 1) fun _ => 0)) (by omega) ?_)
    · have hl := seq_length (n + 1) F
      have e : (((m : Int) + 1)).toNat = m + 1 := by omega
      simp (disch := omega) only [grid_table.l0, wr, if_pos, e, seq_const, hl, Int.toNat_natCast, seq_set]
      simp only [Int.natCast_add, Int.cast_ofNat_Int]
    · intro j hj
      by_cases h : j = i
      · subst h; rw [upd_same]
      · rw [upd_ne _ _ h]; exact hF j (by omega)
theorem grid_table_eq (n m : Nat) (hn : n ≤ 100000) (hm : m ≤ 100000) : Ev (fun k => grid_table.f k n m) (seq (n + 1) fun _ => seq (m + 1) fun _ => 0) := by
  refine Ev.congr (fun k => ?_) (grid_table_l0 n m hn hm (n + 1) 0 (fun _ => []) (by omega) (by omega))
  have e : (((n : Int) + 1)).toNat = n + 1 := by omega
  have hl := seq_length (n + 1) (fun _ => ([] : List Int))
  unfold grid_table.f
  simp (disch := omega) only [wr, if_pos, e, bs, seq_const, hl]
  rfl

theorem grid_Behind_l1 (a b : List Int) (ha : a.length ≤ 100000) (hb : b.length ≤ 100000) (r : List (List Int)) (i : Nat) (hi : i < a.length) : ∀ (j : Nat) (f : Nat → Nat → Int), j ≤ b.length →
    (∀ p q, i < p → p ≤ a.length → q ≤ b.length → f p q = T a b p q) → (∀ q, j ≤ q → q ≤ b.length → f i q = T a b i q) → (∀ p, p < i → f p b.length = 0) →
    (∀ g : Nat → Nat → Int, (∀ p q, i ≤ p → p ≤ a.length → q ≤ b.length → g p q = T a b p q) → (∀ p, p < i → g p b.length = 0) →
      Ev (fun k => grid_Behind.l0 k a b (seq (a.length + 1) fun p => seq (b.length + 1) (g p)) ((i : Int) - 1)) r) →
    Ev (fun k => grid_Behind.l1 k a b (seq (a.length + 1) fun p => seq (b.length + 1) (f p)) i ((j : Int) - 1)) r := by
  intro j
  induction j with
  | zero =>
    intro f hj h1 h2 h3 hr
    refine Ev.step (fun k => ?_) (hr f (fun p q hp hp' hq => ?_) h3)
    · simp (disch := omega) only [grid_Behind.l1, wr, if_neg]
    · by_cases h : p = i
      · subst h; exact h2 q (by omega) hq
      · exact h1 p q (by omega) hp' hq
  | succ j ih =>
    intro f hj h1 h2 h3 hr
    have l0 := seq_length (a.length + 1) fun p => seq (b.length + 1) (f p)
    have l1 : ∀ p, (seq (b.length + 1) (f p)).length = b.length + 1 := fun p => seq_length _ _
    have e1 : rd a (i : Int) = a.getD i 0 := rfl
    have e2 : rd b ((((j + 1 : Nat) : Int)) - 1) = b.getD j 0 := rd_at (by omega)
    have e3 := rd_L2_seq (n := a.length + 1) (fun p => seq (b.length + 1) (f p)) (i := (i : Int)) (p := i) (by omega) rfl
    have e4 := rd_L2_seq (n := a.length + 1) (fun p => seq (b.length + 1) (f p)) (i := (i : Int) + 1) (p := i + 1) (by omega) (by omega)
    have e5 := rd_seq (n := b.length + 1) (f (i + 1)) (i := (((j + 1 : Nat) : Int)) - 1 + 1) (p := j + 1) (by omega) (by omega)
    have e6 := rd_seq (n := b.length + 1) (f (i + 1)) (i := (((j + 1 : Nat) : Int)) - 1) (p := j) (by omega) (by omega)
    have e7 := rd_seq (n := b.length + 1) (f i) (i := (((j + 1 : Nat) : Int)) - 1 + 1) (p := j + 1) (by omega) (by omega)
    have hs := T_step (a := a) (b := b) (i := i) (j := j) hi (by omega)
    have t1 := T_le_left a b (i + 1) (j + 1)
    have v1 := h1 (i + 1) (j + 1) (by omega) (by omega) (by omega)
    have v2 := h1 (i + 1) j (by omega) (by omega) (by omega)
    have v3 := h2 (j + 1) (by omega) (by omega)
    have key : ∀ v : Int, v = T a b i j → Ev (fun k => grid_Behind.l1 k a b ((seq (a.length + 1) fun p => seq (b.length + 1) (f p)).set (i : Int).toNat ((seq (b.length + 1) (f i)).set ((((j + 1 : Nat) : Int)) - 1).toNat v)) i ((((j + 1 : Nat) : Int)) - 1 - 1)) r := by
      intro v hv
      rw [show ((((j + 1 : Nat) : Int)) - 1).toNat = j by omega, show ((((j + 1 : Nat) : Int)) - 1 - 1) = (j : Int) - 1 by omega, Int.toNat_natCast, seq_set, seq_set]
      have hg := ih (fun p => upd (fun p => f p) i (upd (f i) j v) p) (by omega) (fun p q hp hp' hq => by
        show upd (fun p => f p) i (upd (f i) j v) p q = _
        rw [upd_ne _ _ (by omega)]; exact h1 p q hp hp' hq) (fun q hq hq' => by
        show upd (fun p => f p) i (upd (f i) j v) i q = _
        rw [upd_same]
        by_cases h : q = j
        · subst h; rw [upd_same, hv]
        · rw [upd_ne _ _ h]; exact h2 q (by omega) hq') (fun p hp => by
        show upd (fun p => f p) i (upd (f i) j v) p b.length = _
        rw [upd_ne _ _ (by omega)]; exact h3 p hp) hr
      have e : (seq (a.length + 1) fun p => seq (b.length + 1) (upd (fun p => f p) i (upd (f i) j v) p)) = seq (a.length + 1) (upd (fun p => seq (b.length + 1) (f p)) i (seq (b.length + 1) (upd (f i) j v))) := by
        refine seq_ext fun p hp => ?_
        by_cases h : p = i
        · subst h; rw [upd_same, upd_same]
        · rw [upd_ne _ _ h, upd_ne _ _ h]
      rw [← e]; exact hg
    by_cases hab : a.getD i 0 = b.getD j 0
    · refine Ev.step (fun k => ?_) (key (f (i + 1) (j + 1) + 1) ?_)
      · simp (disch := omega) only [grid_Behind.l1, wr, if_pos, e1, e2, e3, e4, e5, l0, l1, if_pos hab]
      · rw [hs, if_pos hab, v1]; simp
    · refine Ev.step (fun k => ?_) (key (mx (f (i + 1) j) (f i (j + 1))) ?_)
      · simp (disch := omega) only [grid_Behind.l1, wr, if_pos, e1, e2, e3, e4, e6, e7, l0, l1]
        simp (disch := omega) only [if_neg hab, if_pos, wr]
      · rw [hs, if_neg hab, v2, v3]; unfold mx; omega
theorem grid_Behind_l0 (a b : List Int) (ha : a.length ≤ 100000) (hb : b.length ≤ 100000) : ∀ (i : Nat) (f : Nat → Nat → Int), i ≤ a.length →
    (∀ p q, i ≤ p → p ≤ a.length → q ≤ b.length → f p q = T a b p q) → (∀ p, p < i → f p b.length = 0) →
    Ev (fun k => grid_Behind.l0 k a b (seq (a.length + 1) fun p => seq (b.length + 1) (f p)) ((i : Int) - 1)) (behind a b) := by
  intro i
  induction i with
  | zero =>
    intro f hi h1 h2
    refine Ev.step (f := fun _ => some _) (fun k => ?_) (Ev.now _)
    simp (disch := omega) only [grid_Behind.l0, if_neg]
    congr 1
    exact seq_ext fun p hp => seq_ext fun q hq => h1 p q (by omega) (by omega) (by omega)
  | succ i ih =>
    intro f hi h1 h2
    refine Ev.step (fun k => ?_) (grid_Behind_l1 a b ha hb (behind a b) i (by omega) b.length f (by omega) (fun p q hp hp' hq => h1 p q (by omega) hp' hq) (fun q hq hq' => ?_) (fun p hp => h2 p (by omega)) (fun g g1 g2 => ih g (by omega) g1 g2))
    · simp (disch := omega) only [grid_Behind.l0, wr, if_pos]
      rw [show ((((i + 1 : Nat) : Int)) - 1) = (i : Int) by omega]
    · obtain rfl : q = b.length := by omega
      rw [h2 i (by omega), T_out_right (by omega)]; rfl
theorem grid_Behind_eq (a b : List Int) (ha : a.length ≤ 100000) (hb : b.length ≤ 100000) : Ev (fun k => grid_Behind.f k a b) (behind a b) := by
  unfold grid_Behind.f
  refine Ev.bind (grid_table_eq a.length b.length ha hb) ?_
  have := grid_Behind_l0 a b ha hb a.length (fun _ _ => 0) (by omega) (fun p q hp hp' hq => by rw [T_out_left (by omega)]; rfl) (fun _ _ => rfl)
  refine Ev.congr (fun k => ?_) this
  rw [wr (by omega) (by omega)]

/-- Pairs that rise in both, from behind two places on, each of alike numbers. -/
def okPair (a b : List Int) (li lj : Int) (x : S28) : Bool := decide (0 ≤ x.f0) && decide (x.f0 < a.length) && decide (0 ≤ x.f1) && decide (x.f1 < b.length) && decide (rd a x.f0 = rd b x.f1) && decide (li < x.f0) && decide (lj < x.f1)
def good (a b : List Int) : Int → Int → List S28 → Bool
  | _, _, [] => true
  | li, lj, x :: l => okPair a b li lj x && good a b x.f0 x.f1 l
theorem okPair_iff (a b : List Int) (li lj : Int) (x : S28) : okPair a b li lj x = true ↔ 0 ≤ x.f0 ∧ x.f0 < a.length ∧ 0 ≤ x.f1 ∧ x.f1 < b.length ∧ rd a x.f0 = rd b x.f1 ∧ li < x.f0 ∧ lj < x.f1 := by
  simp [okPair, and_assoc]
theorem good_cons (a b : List Int) (li lj : Int) (x : S28) (l : List S28) : good a b li lj (x :: l) = true ↔ okPair a b li lj x = true ∧ good a b x.f0 x.f1 l = true := by simp [good]
theorem good_weaken {a b : List Int} {li lj li' lj' : Int} (hi : li' ≤ li) (hj : lj' ≤ lj) : ∀ {l : List S28}, good a b li lj l = true → good a b li' lj' l = true
  | [], _ => rfl
  | x :: l, h => by
    rw [good_cons, okPair_iff] at h ⊢
    obtain ⟨⟨h1, h2, h3, h4, h5, h6, h7⟩, h8⟩ := h
    exact ⟨⟨h1, h2, h3, h4, h5, by omega, by omega⟩, h8⟩
/-- A good list is no longer than what both have in common behind. -/
theorem good_len {a b : List Int} : ∀ (l : List S28) (i j : Nat), good a b ((i : Int) - 1) ((j : Int) - 1) l = true → l.length ≤ T a b i j
  | [], i, j, _ => Nat.zero_le _
  | x :: l, i, j, h => by
    rw [good_cons, okPair_iff] at h
    obtain ⟨⟨h1, h2, h3, h4, h5, h6, h7⟩, h8⟩ := h
    obtain ⟨p, hp⟩ := Int.eq_ofNat_of_zero_le h1
    obtain ⟨q, hq⟩ := Int.eq_ofNat_of_zero_le h3
    have ih := good_len l (p + 1) (q + 1) (by rw [hp, hq] at h8; simpa using h8)
    rw [hp, hq, rd_nat, rd_nat] at h5
    have hs := T_step (a := a) (b := b) (i := p) (j := q) (by omega) (by omega)
    rw [if_pos h5] at hs
    have e1 : T a b p q ≤ T a b i q := by
      unfold T; refine lcs_mono ?_ (List.Sublist.refl _)
      rw [show p = i + (p - i) by omega, ← List.drop_drop]; exact List.drop_sublist _ _
    have e2 : T a b i q ≤ T a b i j := by
      unfold T; refine lcs_mono (List.Sublist.refl _) ?_
      rw [show q = j + (q - j) by omega, ← List.drop_drop]; exact List.drop_sublist _ _
    simp only [List.length_cons]; omega
def prevI (l : List S28) (p : Nat) : Int := if p = 0 then -1 else (l.getD (p - 1) z28).f0
def prevJ (l : List S28) (p : Nat) : Int := if p = 0 then -1 else (l.getD (p - 1) z28).f1
theorem drop_getD_pair {xs : List S28} {i : Nat} (h : i < xs.length) : xs.drop i = xs.getD i z28 :: xs.drop (i + 1) := by
  rw [List.drop_eq_getElem_cons h]; simp [List.getD_eq_getElem?_getD, h]

theorem tattingref7_Good_l0 (a b : List Int) (l : List S28) (ha : a.length ≤ 1000000) (hb : b.length ≤ 1000000) (hl : l.length ≤ 1000000) : ∀ (d k p : Nat), p + d = l.length → 2 * d < k →
    tattingref7_Good.l0 k a b l p = some (good a b (prevI l p) (prevJ l p) (l.drop p)) := by
  intro d
  induction d with
  | zero =>
    intro k p hp hk
    obtain ⟨k, rfl⟩ : ∃ m, k = m + 1 := ⟨k - 1, by omega⟩
    rw [tattingref7_Good.l0, if_neg (by omega), List.drop_eq_nil_of_le (by omega)]
    rfl
  | succ d ih =>
    intro k p hp hk
    obtain ⟨k, rfl⟩ : ∃ m, k = m + 1 + 1 := ⟨k - 2, by omega⟩
    have e1 : rd_T28 l (p : Int) = l.getD p z28 := rfl
    have h4 := ih k (p + 1) (by omega) (by omega)
    rw [drop_getD_pair (show p < l.length by omega)]
    have pi1 : prevI l (p + 1) = (l.getD p z28).f0 := by simp [prevI]
    have pj1 : prevJ l (p + 1) = (l.getD p z28).f1 := by simp [prevJ]
    rw [pi1, pj1] at h4
    have e2 : p ≠ 0 → rd_T28 l ((p : Int) - 1) = l.getD (p - 1) z28 := fun h => by
      unfold rd_T28; congr 1; omega
    have pi0 : p ≠ 0 → prevI l p = (l.getD (p - 1) z28).f0 := fun h => by simp [prevI, h]
    have pj0 : p ≠ 0 → prevJ l p = (l.getD (p - 1) z28).f1 := fun h => by simp [prevJ, h]
    have pi2 : p = 0 → prevI l p = -1 := fun h => by simp [prevI, h]
    have pj2 : p = 0 → prevJ l p = -1 := fun h => by simp [prevJ, h]
    generalize l.getD p z28 = x at *
    generalize l.getD (p - 1) z28 = y at *
    simp only [Int.natCast_add, Int.cast_ofNat_Int] at h4
    rw [tattingref7_Good.l0, if_pos (by omega), if_pos (by omega), e1]
    by_cases c1 : x.f0 < 0
    · rw [if_pos c1, tattingref7_Good.j1, itt]
      symm; congr 1; rw [← Bool.not_eq_true, good_cons, okPair_iff]; omega
    rw [if_neg c1]
    by_cases c2 : x.f0 ≥ a.length
    · rw [if_pos c2, tattingref7_Good.j1, itt]
      symm; congr 1; rw [← Bool.not_eq_true, good_cons, okPair_iff]; omega
    rw [if_neg c2]
    by_cases c3 : x.f1 < 0
    · rw [if_pos c3, tattingref7_Good.j1, itt]
      symm; congr 1; rw [← Bool.not_eq_true, good_cons, okPair_iff]; omega
    rw [if_neg c3]
    by_cases c4 : x.f1 ≥ b.length
    · rw [if_pos c4, tattingref7_Good.j1, itt]
      symm; congr 1; rw [← Bool.not_eq_true, good_cons, okPair_iff]; omega
    rw [if_neg c4, if_pos (by omega), if_pos (by omega), if_pos (by omega), if_pos (by omega), tattingref7_Good.j1]
    by_cases c5 : rd a x.f0 = rd b x.f1
    · rw [bne_eq_false_iff_eq.2 c5, ift, wr (by omega) (by omega), wr (by omega) (by omega)]
      by_cases c6 : p = 0
      · rw [if_neg (by omega), h4]
        congr 1
        rw [pi2 c6, pj2 c6, Bool.eq_iff_iff, good_cons, okPair_iff]
        exact ⟨fun h => ⟨⟨by omega, by omega, by omega, by omega, c5, by omega, by omega⟩, h⟩, fun h => h.2⟩
      · rw [if_pos (by omega), if_pos (by omega), if_pos (by omega), e2 c6, pi0 c6, pj0 c6]
        by_cases c7 : x.f0 ≤ y.f0
        · rw [if_pos c7]
          symm; congr 1; rw [← Bool.not_eq_true, good_cons, okPair_iff]; omega
        rw [if_neg c7]
        by_cases c8 : x.f1 ≤ y.f1
        · rw [if_pos c8]
          symm; congr 1; rw [← Bool.not_eq_true, good_cons, okPair_iff]; omega
        rw [if_neg c8, h4]
        congr 1
        rw [Bool.eq_iff_iff, good_cons, okPair_iff]
        exact ⟨fun h => ⟨⟨by omega, by omega, by omega, by omega, c5, by omega, by omega⟩, h⟩, fun h => h.2⟩
    · rw [bne_iff_ne.2 c5, itt]
      symm; congr 1; rw [← Bool.not_eq_true, good_cons, okPair_iff]; exact fun h => c5 h.1.2.2.2.2.1
theorem tattingref7_Good_eq (a b : List Int) (l : List S28) (ha : a.length ≤ 1000000) (hb : b.length ≤ 1000000) (hl : l.length ≤ 1000000) (k : Nat) (hk : 2 * l.length < k) :
    tattingref7_Good.f k a b l = some (good a b (-1) (-1) l) :=
  tattingref7_Good_l0 a b l ha hb hl l.length k 0 (by omega) hk

def few (a : List Int) (n : Int) : List Int := a.map (· % n)
theorem few_length (a : List Int) (n : Int) : (few a n).length = a.length := by simp [few]
theorem tmod_few (x n : Int) (hn : 0 < n) : (if Int.tmod x n < 0 then Int.tmod x n + n else Int.tmod x n) = x % n := by
  rw [Int.tmod_eq_emod]
  have h1 := Int.emod_nonneg x (show n ≠ 0 by omega)
  have h2 := Int.emod_lt_of_pos x hn
  have h3 : (n.natAbs : Int) = n := by omega
  by_cases h : 0 ≤ x ∨ n ∣ x
  · rw [if_pos h]; rw [if_neg (by omega)]; omega
  · rw [if_neg h, h3]
    have h4 : x % n ≠ 0 := fun e => h (.inr (Int.dvd_of_emod_eq_zero e))
    rw [if_pos (by omega)]; omega
theorem few_take (a : List Int) (n : Int) (i : Nat) (h : i < a.length) : few (a.take (i + 1)) n = few (a.take i) n ++ [a.getD i 0 % n] := by
  rw [take_getD h]; simp [few]
theorem tattingref1_Few_l0 (a : List Int) (n : Int) (hn : 0 < n) (hn' : n ≤ 1000000) (ha : a.length ≤ 1000000) : ∀ (d k i : Nat), i + d = a.length → d < k →
    tattingref1_Few.l0 k a n (few (a.take i) n) i = some (few a n) := by
  intro d
  induction d with
  | zero =>
    intro k i hi hk
    obtain ⟨k, rfl⟩ : ∃ m, k = m + 1 := ⟨k - 1, by omega⟩
    simp (disch := omega) only [tattingref1_Few.l0, if_neg]
    rw [List.take_of_length_le (by omega)]
  | succ d ih =>
    intro k i hi hk
    obtain ⟨k, rfl⟩ : ∃ m, k = m + 1 := ⟨k - 1, by omega⟩
    have e1 : rd a (i : Int) = a.getD i 0 := rfl
    have hl : (few (a.take i) n).length ≤ a.length := by rw [few_length]; simp; omega
    have h1 := Int.emod_nonneg (a.getD i 0) (show n ≠ 0 by omega)
    have h2 := Int.emod_lt_of_pos (a.getD i 0) hn
    have h3 := tmod_few (a.getD i 0) n hn
    have h4 := ih k (i + 1) (by omega) (by omega)
    rw [few_take a n i (by omega)] at h4
    simp only [Int.natCast_add, Int.cast_ofNat_Int] at h4
    simp (disch := omega) only [tattingref1_Few.l0, if_pos, if_neg, e1, wr]
    split
    · rename_i hlt
      rw [if_pos hlt] at h3
      rw [h3]; exact h4
    · rename_i hlt
      rw [if_neg hlt] at h3
      rw [h3]; exact h4
theorem tattingref1_Few_eq (a : List Int) (n : Int) (hn : 0 < n) (hn' : n ≤ 1000000) (ha : a.length ≤ 1000000) (k : Nat) (hk : a.length < k) : tattingref1_Few.f k a n = some (few a n) := by
  have := tattingref1_Few_l0 a n hn hn' ha a.length k 0 (by omega) hk
  unfold tattingref1_Few.f
  simpa [few] using this

def trow (a b : List Int) (p : Nat) : List Int := seq (b.length + 1) fun q => (T a b p q : Int)
theorem tattingref7_Behind_l1 (a b : List Int) (ha : a.length ≤ 100000) (hb : b.length ≤ 100000) (r : List (List Int)) (i : Nat) (hi : i < a.length) (F : Nat → List Int) (hF : ∀ p, i < p → p ≤ a.length → F p = trow a b p)
    (hr : ∀ G : Nat → List Int, (∀ p, i ≤ p → p ≤ a.length → G p = trow a b p) → Ev (fun k => tattingref7_Behind.l0 k a b (seq (a.length + 1) G) ((i : Int) - 1)) r) : ∀ (j : Nat) (g : Nat → Int), j ≤ b.length → (∀ q, j ≤ q → q ≤ b.length → g q = T a b i q) →
    Ev (fun k => tattingref7_Behind.l1 k a b (seq (a.length + 1) (upd F i (seq (b.length + 1) g))) i ((j : Int) - 1)) r := by
  intro j
  induction j with
  | zero =>
    intro g hj h2
    refine Ev.step (f := fun k => tattingref7_Behind.j2 k a b (seq (a.length + 1) (upd F i (seq (b.length + 1) g))) i (((0 : Nat) : Int) - 1) false) (fun k => ?_) ?_
    · have e : decide ((((0 : Nat) : Int) - 1) ≥ 0) = false := decide_eq_false (by omega)
      rw [tattingref7_Behind.l1, if_pos (by omega), e]
    · refine Ev.step (fun k => ?_) (hr (upd F i (seq (b.length + 1) g)) (fun p hp hp' => ?_))
      · rw [tattingref7_Behind.j2, ift, wr (by omega) (by omega)]
      · by_cases h : p = i
        · subst h; rw [upd_same]; exact seq_ext fun q hq => h2 q (by omega) (by omega)
        · rw [upd_ne _ _ h]; exact hF p (by omega) hp'
  | succ j ih =>
    intro g hj h2
    refine Ev.step (f := fun k => tattingref7_Behind.j2 k a b (seq (a.length + 1) (upd F i (seq (b.length + 1) g))) i (((j + 1 : Nat) : Int) - 1) true) (fun k => ?_) ?_
    · have e : decide ((((j + 1 : Nat) : Int) - 1) ≥ 0) = true := decide_eq_true (by omega)
      rw [tattingref7_Behind.l1, if_pos (by omega), e]
    have hF1 := hF (i + 1) (by omega) (by omega)
    have hu : upd F i (seq (b.length + 1) g) (i + 1) = trow a b (i + 1) := by rw [upd_ne _ _ (by omega)]; exact hF1
    have l0 := seq_length (a.length + 1) (upd F i (seq (b.length + 1) g))
    have l1 := seq_length (b.length + 1) g
    have l2 : (trow a b (i + 1)).length = b.length + 1 := seq_length _ _
    have e1 : rd a (i : Int) = a.getD i 0 := rfl
    have e2 : rd b ((((j + 1 : Nat) : Int)) - 1) = b.getD j 0 := rd_at (by omega)
    have e3 := rd_L2_seq (n := a.length + 1) (upd F i (seq (b.length + 1) g)) (i := (i : Int)) (p := i) (by omega) rfl
    rw [upd_same] at e3
    have e4 := rd_L2_seq (n := a.length + 1) (upd F i (seq (b.length + 1) g)) (i := (i : Int) + 1) (p := i + 1) (by omega) (by omega)
    rw [hu] at e4
    have e5 : rd (trow a b (i + 1)) ((((j + 1 : Nat) : Int)) - 1 + 1) = T a b (i + 1) (j + 1) := rd_seq (n := b.length + 1) (fun q => (T a b (i + 1) q : Int)) (p := j + 1) (by omega) (by omega)
    have e6 : rd (trow a b (i + 1)) ((((j + 1 : Nat) : Int)) - 1) = T a b (i + 1) j := rd_seq (n := b.length + 1) (fun q => (T a b (i + 1) q : Int)) (p := j) (by omega) (by omega)
    have e7 := rd_seq (n := b.length + 1) g (i := (((j + 1 : Nat) : Int)) - 1 + 1) (p := j + 1) (by omega) (by omega)
    have hs := T_step (a := a) (b := b) (i := i) (j := j) hi (by omega)
    have t1 := T_le_left a b (i + 1) (j + 1)
    have v3 := h2 (j + 1) (by omega) (by omega)
    have key : ∀ v : Int, v = T a b i j → Ev (fun k => tattingref7_Behind.l1 k a b ((seq (a.length + 1) (upd F i (seq (b.length + 1) g))).set (i : Int).toNat ((seq (b.length + 1) g).set ((((j + 1 : Nat) : Int)) - 1).toNat v)) i ((((j + 1 : Nat) : Int)) - 1 - 1)) r := by
      intro v hv
      rw [show ((((j + 1 : Nat) : Int)) - 1).toNat = j by omega, show ((((j + 1 : Nat) : Int)) - 1 - 1) = (j : Int) - 1 by omega, Int.toNat_natCast, seq_set, seq_set]
      have hg := ih (upd g j v) (by omega) (fun q hq hq' => by
        by_cases h : q = j
        · subst h; rw [upd_same, hv]
        · rw [upd_ne _ _ h]; exact h2 q (by omega) hq')
      have e : upd (upd F i (seq (b.length + 1) g)) i (seq (b.length + 1) (upd g j v)) = upd F i (seq (b.length + 1) (upd g j v)) := by
        funext p
        by_cases h : p = i
        · subst h; rw [upd_same, upd_same]
        · rw [upd_ne _ _ h, upd_ne _ _ h, upd_ne _ _ h]
      rw [e]; exact hg
    by_cases hab : a.getD i 0 = b.getD j 0
    · refine Ev.step (fun k => ?_) (key (T a b (i + 1) (j + 1) + 1) ?_)
      · simp (disch := omega) only [tattingref7_Behind.j2, itt, ifT, wr, if_pos, e1, e2, e3, e4, e5, l0, l1, l2, if_pos hab]
      · rw [hs, if_pos hab]; simp
    · refine Ev.step (fun k => ?_) (key (mx (T a b (i + 1) j) (g (j + 1))) ?_)
      · simp (disch := omega) only [tattingref7_Behind.j2, itt, ifT, wr, if_pos, e1, e2, e3, e4, e6, e7, l0, l1, l2]
        simp (disch := omega) only [if_neg hab, if_pos, wr]
      · rw [hs, if_neg hab, v3]; unfold mx; omega
theorem tattingref7_Behind_l0 (a b : List Int) (ha : a.length ≤ 100000) (hb : b.length ≤ 100000) : ∀ (i : Nat) (F : Nat → List Int), i ≤ a.length →
    (∀ p, i ≤ p → p ≤ a.length → F p = trow a b p) → Ev (fun k => tattingref7_Behind.l0 k a b (seq (a.length + 1) F) ((i : Int) - 1)) (behind a b) := by
  intro i
  induction i with
  | zero =>
    intro F hi h1
    refine Ev.step (f := fun _ => some _) (fun k => ?_) (Ev.now _)
    simp (disch := omega) only [tattingref7_Behind.l0, if_neg]
    congr 1
    exact seq_ext fun p hp => h1 p (by omega) (by omega)
  | succ i ih =>
    intro F hi h1
    refine Ev.step (fun k => ?_) (tattingref7_Behind_l1 a b ha hb (behind a b) i (by omega) F (fun p hp hp' => h1 p (by omega) hp') (fun G hG => ih G (by omega) hG) b.length (fun _ => 0) (by omega) (fun q hq hq' => ?_))
    · have l0 := seq_length (a.length + 1) F
      have e : ((b.length : Int) + 1).toNat = b.length + 1 := by omega
      simp (disch := omega) only [tattingref7_Behind.l0, wr, if_pos, e, l0, seq_const, seq_set]
      rw [show ((((i + 1 : Nat) : Int)) - 1) = (i : Int) by omega, Int.toNat_natCast]
    · rw [T_out_right (by omega)]; rfl
theorem tattingref7_Behind_eq (a b : List Int) (ha : a.length ≤ 100000) (hb : b.length ≤ 100000) : Ev (fun k => tattingref7_Behind.f k a b) (behind a b) := by
  have hrow : (seq (b.length + 1) fun _ => (0 : Int)) = trow a b a.length := seq_ext fun q hq => by rw [T_out_left (by omega)]; rfl
  have h0 := tattingref7_Behind_l0 a b ha hb a.length (upd (fun _ => []) a.length (seq (b.length + 1) fun _ => 0)) (by omega) (fun p hp hp' => by
    obtain rfl : p = a.length := by omega
    rw [upd_same, hrow])
  have h1 : Ev (fun k => tattingref7_Behind.l1 k a b (seq (a.length + 1) (upd (fun _ => []) a.length (seq (b.length + 1) fun _ => 0))) a.length ((b.length : Int) - 1)) (behind a b) := by
    refine Ev.step (f := fun k => tattingref7_Behind.j2 k a b (seq (a.length + 1) (upd (fun _ => []) a.length (seq (b.length + 1) fun _ => 0))) a.length ((b.length : Int) - 1) false) (fun k => ?_) (Ev.step (fun k => ?_) h0)
    · rw [tattingref7_Behind.l1, if_neg (by omega)]
    · rw [tattingref7_Behind.j2, ift, wr (by omega) (by omega)]
  have h2 : Ev (fun k => tattingref7_Behind.l0 k a b (seq (a.length + 1) (fun _ => [])) a.length) (behind a b) := by
    refine Ev.step (fun k => ?_) h1
    have l0 := seq_length (a.length + 1) (fun _ => ([] : List Int))
    have e : ((b.length : Int) + 1).toNat = b.length + 1 := by omega
    simp (disch := omega) only [tattingref7_Behind.l0, wr, if_pos, e, l0, seq_const, seq_set]
    rw [Int.toNat_natCast]
  refine Ev.congr (fun k => ?_) h2
  have e : ((a.length : Int) + 1).toNat = a.length + 1 := by omega
  unfold tattingref7_Behind.f
  simp (disch := omega) only [wr, if_pos, e, seq_const]

theorem grid_Len_l1 (a b : List Int) (ha : a.length ≤ 100000) (hb : b.length ≤ 100000) (r : Int) (i : Nat) (hi : i < a.length)
    (hr : ∀ g : Nat → Int, (∀ q, q ≤ b.length → g q = T a b i q) → Ev (fun k => grid_Len.l0 k a b (seq (b.length + 1) g) ((i : Int) - 1)) r) : ∀ (j : Nat) (g : Nat → Int), j ≤ b.length →
    (∀ q, j ≤ q → q ≤ b.length → g q = T a b i q) → (∀ q, q < j → g q = T a b (i + 1) q) → Ev (fun k => grid_Len.l1 k a b (seq (b.length + 1) g) i (T a b (i + 1) j) ((j : Int) - 1)) r := by
  intro j
  induction j with
  | zero =>
    intro g hj h1 h2
    refine Ev.step (fun k => ?_) (hr g (fun q hq => h1 q (by omega) hq))
    simp (disch := omega) only [grid_Len.l1, wr, if_neg]
  | succ j ih =>
    intro g hj h1 h2
    have l1 := seq_length (b.length + 1) g
    have e1 : rd a (i : Int) = a.getD i 0 := rfl
    have e2 : rd b ((((j + 1 : Nat) : Int)) - 1) = b.getD j 0 := rd_at (by omega)
    have e3 := rd_seq (n := b.length + 1) g (i := (((j + 1 : Nat) : Int)) - 1) (p := j) (by omega) (by omega)
    have e4 := rd_seq (n := b.length + 1) g (i := (((j + 1 : Nat) : Int)) - 1 + 1) (p := j + 1) (by omega) (by omega)
    have hs := T_step (a := a) (b := b) (i := i) (j := j) hi (by omega)
    have t1 := T_le_left a b (i + 1) (j + 1)
    have v1 := h1 (j + 1) (by omega) (by omega)
    have v2 := h2 j (by omega)
    have key : ∀ v : Int, v = T a b i j → Ev (fun k => grid_Len.l1 k a b ((seq (b.length + 1) g).set ((((j + 1 : Nat) : Int)) - 1).toNat v) i (g j) ((((j + 1 : Nat) : Int)) - 1 - 1)) r := by
      intro v hv
      rw [show ((((j + 1 : Nat) : Int)) - 1).toNat = j by omega, show ((((j + 1 : Nat) : Int)) - 1 - 1) = (j : Int) - 1 by omega, seq_set, v2]
      refine ih (upd g j v) (by omega) (fun q hq hq' => ?_) (fun q hq => ?_)
      · by_cases h : q = j
        · subst h; rw [upd_same, hv]
        · rw [upd_ne _ _ h]; exact h1 q (by omega) hq'
      · rw [upd_ne _ _ (by omega)]; exact h2 q (by omega)
    by_cases hab : a.getD i 0 = b.getD j 0
    · refine Ev.step (fun k => ?_) (key (T a b (i + 1) (j + 1) + 1) ?_)
      · simp (disch := omega) only [grid_Len.l1, ifT, wr, if_pos, e1, e2, e3, e4, l1, if_pos hab]
      · rw [hs, if_pos hab]; simp
    · refine Ev.step (fun k => ?_) (key (mx (g j) (g (j + 1))) ?_)
      · simp (disch := omega) only [grid_Len.l1, ifT, wr, if_pos, e1, e2, e3, e4, l1]
        simp (disch := omega) only [if_neg hab, if_pos, wr]
      · rw [hs, if_neg hab, v1, v2]; unfold mx; omega
theorem grid_Len_l0 (a b : List Int) (ha : a.length ≤ 100000) (hb : b.length ≤ 100000) : ∀ (i : Nat) (g : Nat → Int), i ≤ a.length → (∀ q, q ≤ b.length → g q = T a b i q) →
    Ev (fun k => grid_Len.l0 k a b (seq (b.length + 1) g) ((i : Int) - 1)) (lcs a b : Int) := by
  intro i
  induction i with
  | zero =>
    intro g hi h1
    refine Ev.step (f := fun _ => some _) (fun k => ?_) (Ev.now _)
    have l1 := seq_length (b.length + 1) g
    have e3 := rd_seq (n := b.length + 1) g (i := 0) (p := 0) (by omega) (by omega)
    simp (disch := omega) only [grid_Len.l0, if_neg, if_pos, l1, e3]
    rw [h1 0 (by omega)]; rfl
  | succ i ih =>
    intro g hi h1
    refine Ev.step (fun k => ?_) (grid_Len_l1 a b ha hb _ i (by omega) (fun g' h' => ih g' (by omega) h') b.length g (by omega) (fun q hq hq' => ?_) (fun q hq => h1 q (by omega)))
    · simp (disch := omega) only [grid_Len.l0, wr, if_pos]
      rw [show ((((i + 1 : Nat) : Int)) - 1) = (i : Int) by omega, T_out_right (Nat.le_refl _)]; rfl
    · obtain rfl : q = b.length := by omega
      rw [h1 _ (by omega), T_out_right (by omega), T_out_right (by omega)]
theorem grid_Len_eq (a b : List Int) (ha : a.length ≤ 100000) (hb : b.length ≤ 100000) : Ev (fun k => grid_Len.f k a b) (lcs a b : Int) := by
  refine Ev.congr (fun k => ?_) (grid_Len_l0 a b ha hb a.length (fun _ => 0) (by omega) (fun q hq => by rw [T_out_left (by omega)]; rfl))
  have e : ((b.length : Int) + 1).toNat = b.length + 1 := by omega
  unfold grid_Len.f
  simp (disch := omega) only [wr, if_pos, e, seq_const]

def lessP : List S28 → List S28 → Bool
  | [], [] => false
  | [], _ :: _ => true
  | _ :: _, [] => false
  | x :: xs, y :: ys => if x.f0 = y.f0 then (if x.f1 = y.f1 then lessP xs ys else decide (x.f1 < y.f1)) else decide (x.f0 < y.f0)
theorem lessP_irrefl : ∀ x : List S28, lessP x x = false
  | [] => rfl
  | x :: xs => by simp [lessP, lessP_irrefl xs]
theorem lessP_asymm : ∀ x y : List S28, lessP x y = true → lessP y x = false
  | [], [], h => by simp [lessP] at h
  | [], _ :: _, h => rfl
  | _ :: _, [], h => by simp [lessP] at h
  | x :: xs, y :: ys, h => by
    by_cases c0 : x.f0 = y.f0
    · by_cases c1 : x.f1 = y.f1
      · simp only [lessP, if_pos c0, if_pos c1, if_pos c0.symm, if_pos c1.symm] at h ⊢
        exact lessP_asymm xs ys h
      · simp only [lessP, if_pos c0, if_neg c1, if_pos c0.symm, if_neg (Ne.symm c1), decide_eq_true_eq, decide_eq_false_iff_not] at h ⊢
        omega
    · simp only [lessP, if_neg c0, if_neg (Ne.symm c0), decide_eq_true_eq, decide_eq_false_iff_not] at h ⊢
      omega
theorem lessP_total : ∀ x y : List S28, lessP x y = false → lessP y x = false → x = y
  | [], [], _, _ => rfl
  | [], _ :: _, h, _ => by simp [lessP] at h
  | _ :: _, [], _, h => by simp [lessP] at h
  | x :: xs, y :: ys, h, h' => by
    by_cases c0 : x.f0 = y.f0
    · by_cases c1 : x.f1 = y.f1
      · simp only [lessP, if_pos c0, if_pos c1, if_pos c0.symm, if_pos c1.symm] at h h'
        rw [lessP_total xs ys h h']
        congr 1
        cases x; cases y; simp_all
      · simp only [lessP, if_pos c0, if_neg c1, if_pos c0.symm, if_neg (Ne.symm c1), decide_eq_false_iff_not] at h h'
        omega
    · simp only [lessP, if_neg c0, if_neg (Ne.symm c0), decide_eq_false_iff_not] at h h'
      omega
theorem lessP_trans : ∀ x y z : List S28, lessP x y = true → lessP y z = true → lessP x z = true
  | [], [], _, h, _ => by simp [lessP] at h
  | [], _ :: _, [], _, h => by simp [lessP] at h
  | [], _ :: _, _ :: _, _, _ => rfl
  | _ :: _, [], _, h, _ => by simp [lessP] at h
  | _ :: _, _ :: _, [], _, h => by simp [lessP] at h
  | x :: xs, y :: ys, z :: zs, h, h' => by
    simp only [lessP] at h h' ⊢
    by_cases c0 : x.f0 = y.f0
    · by_cases c1 : x.f1 = y.f1
      · rw [if_pos c0, if_pos c1] at h
        rw [c0, c1]
        by_cases d0 : y.f0 = z.f0
        · by_cases d1 : y.f1 = z.f1
          · rw [if_pos d0, if_pos d1] at h' ⊢; exact lessP_trans xs ys zs h h'
          · rw [if_pos d0, if_neg d1] at h' ⊢; exact h'
        · rw [if_neg d0] at h' ⊢; exact h'
      · rw [if_pos c0, if_neg c1, decide_eq_true_eq] at h
        rw [c0]
        by_cases d0 : y.f0 = z.f0
        · by_cases d1 : y.f1 = z.f1
          · rw [if_pos d0, if_neg (by omega), decide_eq_true_eq]; omega
          · rw [if_pos d0, if_neg d1, decide_eq_true_eq] at h'
            rw [if_pos d0, if_neg (by omega), decide_eq_true_eq]; omega
        · rw [if_neg d0] at h' ⊢; exact h'
    · rw [if_neg c0, decide_eq_true_eq] at h
      by_cases d0 : y.f0 = z.f0
      · rw [if_neg (by omega), decide_eq_true_eq]; omega
      · rw [if_neg d0, decide_eq_true_eq] at h'
        rw [if_neg (by omega), decide_eq_true_eq]; omega

/-- A pair behind which there is just one less. -/
def hit (a b : List Int) (want : Nat) (x y : Nat) : Prop := x < a.length ∧ y < b.length ∧ a.getD x 0 = b.getD y 0 ∧ T a b (x + 1) (y + 1) + 1 = want
/-- The first such pair from two places on. -/
def isFirst (a b : List Int) (want i j x y : Nat) : Prop := i ≤ x ∧ j ≤ y ∧ hit a b want x y ∧ ∀ x' y', i ≤ x' → j ≤ y' → (x' < x ∨ (x' = x ∧ y' < y)) → ¬ hit a b want x' y'
/-- The list of first pairs. -/
def isLeast (a b : List Int) : Nat → Nat → List S28 → Prop
  | i, j, [] => T a b i j = 0
  | i, j, p :: l => ∃ x y : Nat, p = ⟨x, y⟩ ∧ isFirst a b (T a b i j) i j x y ∧ isLeast a b (x + 1) (y + 1) l
theorem T_mono (a b : List Int) {i j x y : Nat} (hx : i ≤ x) (hy : j ≤ y) : T a b x y ≤ T a b i j := by
  unfold T; refine lcs_mono ?_ ?_
  · rw [show x = i + (x - i) by omega, ← List.drop_drop]; exact List.drop_sublist _ _
  · rw [show y = j + (y - j) by omega, ← List.drop_drop]; exact List.drop_sublist _ _
theorem T_pair {a b : List Int} {x y : Nat} (hx : x < a.length) (hy : y < b.length) (e : a.getD x 0 = b.getD y 0) : T a b x y = T a b (x + 1) (y + 1) + 1 := by
  rw [T_step hx hy, if_pos e]
theorem hit_some (a b : List Int) : ∀ (d i j : Nat), (a.length - i) + (b.length - j) = d → T a b i j ≠ 0 → ∃ x y, i ≤ x ∧ j ≤ y ∧ hit a b (T a b i j) x y := by
  intro d
  induction d using Nat.strongRecOn with
  | ind d ih =>
    intro i j hd h0
    by_cases hi : i < a.length
    · by_cases hj : j < b.length
      · by_cases e : a.getD i 0 = b.getD j 0
        · exact ⟨i, j, Nat.le_refl _, Nat.le_refl _, hi, hj, e, (T_pair hi hj e).symm⟩
        · have hs := T_step hi hj
          rw [if_neg e] at hs
          by_cases hle : T a b (i + 1) j ≤ T a b i (j + 1)
          · have e2 : T a b i j = T a b i (j + 1) := by omega
            obtain ⟨x, y, h1, h2, h3⟩ := ih _ (by omega) i (j + 1) rfl (by omega)
            exact ⟨x, y, h1, by omega, by rw [e2]; exact h3⟩
          · have e2 : T a b i j = T a b (i + 1) j := by omega
            obtain ⟨x, y, h1, h2, h3⟩ := ih _ (by omega) (i + 1) j rfl (by omega)
            exact ⟨x, y, by omega, h2, by rw [e2]; exact h3⟩
      · exact absurd (T_out_right (by omega)) h0
    · exact absurd (T_out_left (by omega)) h0
/-- Of what holds somewhere there is a first place. -/
theorem first_nat {P : Nat → Prop} : ∀ n, P n → ∃ m, P m ∧ ∀ k, k < m → ¬ P k := by
  intro n
  induction n using Nat.strongRecOn with
  | ind n ih =>
    intro h
    by_cases c : ∃ k, k < n ∧ P k
    · obtain ⟨k, hk, hp⟩ := c
      exact ih k hk hp
    · exact ⟨n, h, fun k hk hp => c ⟨k, hk, hp⟩⟩
theorem isFirst_ex (a b : List Int) (i j : Nat) (h : T a b i j ≠ 0) : ∃ x y, isFirst a b (T a b i j) i j x y := by
  obtain ⟨x0, y0, h1, h2, h3⟩ := hit_some a b _ i j rfl h
  obtain ⟨x, ⟨hx, y1, hy1, hh⟩, hmin⟩ := first_nat (P := fun x => i ≤ x ∧ ∃ y, j ≤ y ∧ hit a b (T a b i j) x y) x0 ⟨h1, y0, h2, h3⟩
  obtain ⟨y, ⟨hy, hh'⟩, hmin'⟩ := first_nat (P := fun y => j ≤ y ∧ hit a b (T a b i j) x y) y1 ⟨hy1, hh⟩
  refine ⟨x, y, hx, hy, hh', fun x' y' h4 h5 h6 h7 => ?_⟩
  rcases h6 with h6 | ⟨rfl, h6⟩
  · exact hmin x' h6 ⟨h4, y', h5, h7⟩
  · exact hmin' y' h6 ⟨h5, h7⟩
theorem isLeast_ex (a b : List Int) : ∀ (n i j : Nat), T a b i j = n → ∃ l : List S28, isLeast a b i j l := by
  intro n
  induction n with
  | zero => intro i j h; exact ⟨[], h⟩
  | succ n ih =>
    intro i j h
    obtain ⟨x, y, hf⟩ := isFirst_ex a b i j (by omega)
    obtain ⟨l, hl⟩ := ih (x + 1) (y + 1) (by have := hf.2.2.1.2.2.2; omega)
    exact ⟨⟨x, y⟩ :: l, x, y, rfl, hf, hl⟩
theorem isLeast_len {a b : List Int} : ∀ {l : List S28} {i j : Nat}, isLeast a b i j l → l.length = T a b i j
  | [], _, _, h => h.symm
  | p :: l, i, j, ⟨x, y, _, hf, hl⟩ => by have := isLeast_len hl; have := hf.2.2.1.2.2.2; simp; omega
theorem isLeast_good {a b : List Int} : ∀ {l : List S28} {i j : Nat}, isLeast a b i j l → good a b ((i : Int) - 1) ((j : Int) - 1) l = true
  | [], _, _, _ => rfl
  | p :: l, i, j, ⟨x, y, hp, hf, hl⟩ => by
    subst hp
    obtain ⟨h1, h2, ⟨h3, h4, h5, h6⟩, _⟩ := hf
    rw [good_cons, okPair_iff]
    refine ⟨⟨by simp, by simpa using h3, by simp, by simpa using h4, by simpa [rd_nat] using h5, by simp; omega, by simp; omega⟩, ?_⟩
    have := isLeast_good hl
    simpa using this
theorem isFirst_same {a b : List Int} {w i j x y x' y' : Nat} (h : isFirst a b w i j x y) (h' : isFirst a b w i j x' y') : x = x' ∧ y = y' := by
  obtain ⟨h1, h2, h3, h4⟩ := h
  obtain ⟨g1, g2, g3, g4⟩ := h'
  have c1 := h4 x' y' g1 g2
  have c2 := g4 x y h1 h2
  by_cases e1 : x' < x
  · exact absurd g3 (c1 (.inl e1))
  · by_cases e2 : x < x'
    · exact absurd h3 (c2 (.inl e2))
    · obtain rfl : x = x' := by omega
      by_cases e3 : y' < y
      · exact absurd g3 (c1 (.inr ⟨rfl, e3⟩))
      · by_cases e4 : y < y'
        · exact absurd h3 (c2 (.inr ⟨rfl, e4⟩))
        · exact ⟨rfl, by omega⟩
theorem isLeast_same {a b : List Int} : ∀ {l l' : List S28} {i j : Nat}, isLeast a b i j l → isLeast a b i j l' → l = l'
  | [], [], _, _, _, _ => rfl
  | [], p :: l', i, j, h, ⟨x, y, _, hf, _⟩ => by have := hf.2.2.1.2.2.2; have h : T a b i j = 0 := h; omega
  | p :: l, [], i, j, ⟨x, y, _, hf, _⟩, h => by have := hf.2.2.1.2.2.2; have h : T a b i j = 0 := h; omega
  | p :: l, p' :: l', i, j, ⟨x, y, hp, hf, hl⟩, ⟨x', y', hp', hf', hl'⟩ => by
    obtain ⟨rfl, rfl⟩ := isFirst_same hf hf'
    rw [hp, hp', isLeast_same hl hl']

theorem least_next_l (a b : List Int) (ha : a.length ≤ 100000) (hb : b.length ≤ 100000) (w i j x y : Nat) (hw : w ≤ 100000) (hf : isFirst a b w i j x y) : ∀ (d p q : Nat), (x - p) * (b.length + 2) + (b.length + 1 - q) = d → i ≤ p → j ≤ q → (p < x ∨ (p = x ∧ q ≤ y)) → q ≤ b.length →
    Ev (fun k => least_next.l1 k (behind a b) a b j w p q) (x, y, true) := by
  obtain ⟨hx, hy, ⟨hx', hy', he, hT⟩, hmin⟩ := hf
  intro d
  induction d using Nat.strongRecOn with
  | ind d ih =>
    intro p q hd hp hq hpq hqb
    have l0 : (behind a b).length = a.length + 1 := seq_length _ _
    by_cases hend : q < b.length
    · have e1 : rd a (p : Int) = a.getD p 0 := rfl
      have e2 : rd b (q : Int) = b.getD q 0 := rfl
      have e3 : rd_L2 (behind a b) ((p : Int) + 1) = seq (b.length + 1) fun r => (T a b (p + 1) r : Int) := rd_L2_seq _ (p := p + 1) (by omega) (by omega)
      have l1 : (seq (b.length + 1) fun r => (T a b (p + 1) r : Int)).length = b.length + 1 := seq_length _ _
      have e4 := rd_seq (n := b.length + 1) (fun r => (T a b (p + 1) r : Int)) (i := (q : Int) + 1) (p := q + 1) (by omega) (by omega)
      have t1 := T_le_left a b (p + 1) (q + 1)
      by_cases hhere : p = x ∧ q = y
      · obtain ⟨rfl, rfl⟩ := hhere
        refine Ev.step (f := fun _ => some _) (fun k => ?_) (Ev.now _)
        simp (disch := omega) only [least_next.l1, if_pos, wr, e1, e2, e3, e4, l0, l1, if_pos he]
      · have hno := hmin p q hp hq (by omega)
        have hnext : Ev (fun k => least_next.l1 k (behind a b) a b j w p ((q : Int) + 1)) (x, y, true) := by
          have := ih _ (by rw [← hd]; omega) p (q + 1) rfl hp (by omega) (by omega) (by omega)
          simpa using this
        by_cases hab : a.getD p 0 = b.getD q 0
        · have hne : ¬ (((T a b (p + 1) (q + 1) : Nat) : Int) + 1 = (w : Int)) := fun h => hno ⟨by omega, hend, hab, by omega⟩
          refine Ev.step (fun k => ?_) hnext
          simp (disch := omega) only [least_next.l1, if_pos, wr, e1, e2, e3, e4, l0, l1, if_pos hab, if_neg hne]
        · refine Ev.step (fun k => ?_) hnext
          simp (disch := omega) only [least_next.l1, if_pos, wr, e1, e2, if_neg hab]
    · -- the next row
      have hpx : p < x := by omega
      have hm : (x - p) * (b.length + 2) = (x - (p + 1)) * (b.length + 2) + (b.length + 2) := by
        rw [show x - p = (x - (p + 1)) + 1 by omega, Nat.succ_mul]
      have hnext := ih ((x - (p + 1)) * (b.length + 2) + (b.length + 1 - j)) (by omega) (p + 1) j rfl (by omega) (Nat.le_refl _) (by omega) (by omega)
      refine Ev.step (f := fun k => least_next.l0 k (behind a b) a b j w ((p : Int) + 1)) (fun k => ?_) (Ev.step (fun k => ?_) hnext)
      · rw [least_next.l1, if_neg (by omega), wr (by omega) (by omega)]
      · rw [least_next.l0, if_pos (by omega)]
        simp
theorem least_next_some (a b : List Int) (ha : a.length ≤ 100000) (hb : b.length ≤ 100000) (i j x y : Nat) (hi : i ≤ a.length) (hj : j ≤ b.length) (hf : isFirst a b (T a b i j) i j x y) : Ev (fun k => least_next.f k (behind a b) a b i j) (x, y, true) := by
  have hT := hf.2.2.1.2.2.2
  have hx := hf.2.2.1.1
  have hy := hf.2.2.1.2.1
  have l0 : (behind a b).length = a.length + 1 := seq_length _ _
  have e3 : rd_L2 (behind a b) (i : Int) = seq (b.length + 1) fun r => (T a b i r : Int) := rd_L2_seq _ (p := i) (by omega) rfl
  have l1 : (seq (b.length + 1) fun r => (T a b i r : Int)).length = b.length + 1 := seq_length _ _
  have e4 := rd_seq (n := b.length + 1) (fun r => (T a b i r : Int)) (i := (j : Int)) (p := j) (by omega) rfl
  have t1 := T_le_left a b i j
  have := least_next_l a b ha hb (T a b i j) i j x y (by omega) hf _ i j rfl (Nat.le_refl _) (Nat.le_refl _) (by have := hf.1; have := hf.2.1; omega) hj
  refine Ev.congr (f := fun k => least_next.l0 k (behind a b) a b j (T a b i j : Nat) i) (fun k => ?_) (Ev.step (fun k => ?_) this)
  · unfold least_next.f
    simp (disch := omega) only [if_pos, if_neg, e3, e4, l0, l1]
  · rw [least_next.l0, if_pos (by have := hf.1; omega)]
theorem least_next_none (a b : List Int) (i j : Nat) (hi : i ≤ a.length) (hj : j ≤ b.length) (h : T a b i j = 0) (k : Nat) : least_next.f k (behind a b) a b i j = some (0, 0, false) := by
  have l0 : (behind a b).length = a.length + 1 := seq_length _ _
  have e3 : rd_L2 (behind a b) (i : Int) = seq (b.length + 1) fun r => (T a b i r : Int) := rd_L2_seq _ (p := i) (by omega) rfl
  have l1 : (seq (b.length + 1) fun r => (T a b i r : Int)).length = b.length + 1 := seq_length _ _
  have e4 := rd_seq (n := b.length + 1) (fun r => (T a b i r : Int)) (i := (j : Int)) (p := j) (by omega) rfl
  unfold least_next.f
  simp (disch := omega) only [if_pos, e3, e4, l0, l1]
theorem least_Of_l0 (a b : List Int) (ha : a.length ≤ 100000) (hb : b.length ≤ 100000) : ∀ (l : List S28) (i j : Nat) (acc : List S28), i ≤ a.length → j ≤ b.length → acc.length ≤ i → isLeast a b i j l →
    Ev (fun k => least_Of.l0 k a b (behind a b) acc i j) (acc ++ l)
  | [], i, j, acc, hi, hj, hacc, h => by
    refine Ev.step (f := fun _ => some _) (fun k => ?_) (Ev.now _)
    rw [least_Of.l0, least_next_none a b i j hi hj h, bs, ift, List.append_nil]
  | p :: l, i, j, acc, hi, hj, hacc, ⟨x, y, hp, hf, hl⟩ => by
    subst hp
    have hx := hf.2.2.1.1
    have hy := hf.2.2.1.2.1
    have ih := least_Of_l0 a b ha hb l (x + 1) (y + 1) (acc ++ [⟨x, y⟩]) (by omega) (by omega) (by simp; have := hf.1; omega) hl
    have hn := least_next_some a b ha hb i j x y hi hj hf
    rw [List.append_assoc, List.singleton_append] at ih
    refine Ev.step (fun k => rfl) (Ev.bind hn ?_)
    refine Ev.congr (fun k => ?_) ih
    rw [itt, if_pos (by omega), wr (x := (x : Int) + 1) (by omega) (by omega), wr (x := (y : Int) + 1) (by omega) (by omega)]
    simp
theorem least_Of_eq (a b : List Int) (ha : a.length ≤ 100000) (hb : b.length ≤ 100000) (l : List S28) (h : isLeast a b 0 0 l) : Ev (fun k => least_Of.f k a b) l := by
  unfold least_Of.f
  refine Ev.bind (grid_Behind_eq a b ha hb) ?_
  simpa using least_Of_l0 a b ha hb l 0 0 [] (by omega) (by omega) (by simp) h

theorem tattingref7_first_l (a b : List Int) (ha : a.length ≤ 100000) (hb : b.length ≤ 100000) (w i j x y : Nat) (hw : w ≤ 100000) (hf : isFirst a b w i j x y) : ∀ (d p q : Nat), (x - p) * (b.length + 2) + (b.length + 1 - q) = d → i ≤ p → j ≤ q → (p < x ∨ (p = x ∧ q ≤ y)) → q ≤ b.length →
    Ev (fun k => tattingref7_first.l1 k a b (behind a b) j w p q) ((x : Int), (y : Int)) := by
  obtain ⟨hx, hy, ⟨hx', hy', he, hT⟩, hmin⟩ := hf
  intro d
  induction d using Nat.strongRecOn with
  | ind d ih =>
    intro p q hd hp hq hpq hqb
    have l0 : (behind a b).length = a.length + 1 := seq_length _ _
    by_cases hend : q < b.length
    · have e1 : rd a (p : Int) = a.getD p 0 := rfl
      have e2 : rd b (q : Int) = b.getD q 0 := rfl
      have e3 : rd_L2 (behind a b) ((p : Int) + 1) = seq (b.length + 1) fun r => (T a b (p + 1) r : Int) := rd_L2_seq _ (p := p + 1) (by omega) (by omega)
      have l1 : (seq (b.length + 1) fun r => (T a b (p + 1) r : Int)).length = b.length + 1 := seq_length _ _
      have e4 := rd_seq (n := b.length + 1) (fun r => (T a b (p + 1) r : Int)) (i := (q : Int) + 1) (p := q + 1) (by omega) (by omega)
      have t1 := T_le_left a b (p + 1) (q + 1)
      by_cases hhere : p = x ∧ q = y
      · obtain ⟨rfl, rfl⟩ := hhere
        refine Ev.step (f := fun _ => some _) (fun k => ?_) (Ev.now _)
        simp (disch := omega) only [tattingref7_first.l1, if_pos, wr, e1, e2, e3, e4, l0, l1, if_pos he]
      · have hno := hmin p q hp hq (by omega)
        have hnext : Ev (fun k => tattingref7_first.l1 k a b (behind a b) j w p ((q : Int) + 1)) ((x : Int), (y : Int)) := by
          have := ih _ (by rw [← hd]; omega) p (q + 1) rfl hp (by omega) (by omega) (by omega)
          simpa using this
        by_cases hab : a.getD p 0 = b.getD q 0
        · have hne : ¬ (((T a b (p + 1) (q + 1) : Nat) : Int) = (w : Int) - 1) := fun h => hno ⟨by omega, hend, hab, by omega⟩
          refine Ev.step (fun k => ?_) hnext
          simp (disch := omega) only [tattingref7_first.l1, if_pos, wr, e1, e2, e3, e4, l0, l1, if_pos hab, if_neg hne]
        · refine Ev.step (fun k => ?_) hnext
          simp (disch := omega) only [tattingref7_first.l1, if_pos, wr, e1, e2, if_neg hab]
    · -- the next row
      have hpx : p < x := by omega
      have hm : (x - p) * (b.length + 2) = (x - (p + 1)) * (b.length + 2) + (b.length + 2) := by
        rw [show x - p = (x - (p + 1)) + 1 by omega, Nat.succ_mul]
      have hnext := ih ((x - (p + 1)) * (b.length + 2) + (b.length + 1 - j)) (by omega) (p + 1) j rfl (by omega) (Nat.le_refl _) (by omega) (by omega)
      refine Ev.step (f := fun k => tattingref7_first.l0 k a b (behind a b) j w ((p : Int) + 1)) (fun k => ?_) (Ev.step (fun k => ?_) hnext)
      · rw [tattingref7_first.l1, if_neg (by omega), wr (by omega) (by omega)]
      · rw [tattingref7_first.l0, if_pos (by omega)]
        simp
theorem tattingref7_first_some (a b : List Int) (ha : a.length ≤ 100000) (hb : b.length ≤ 100000) (i j x y : Nat) (hi : i ≤ a.length) (hj : j ≤ b.length) (hf : isFirst a b (T a b i j) i j x y) : Ev (fun k => tattingref7_first.f k a b (behind a b) i j (T a b i j : Nat)) ((x : Int), (y : Int)) := by
  have t1 := T_le_left a b i j
  have hx := hf.2.2.1.1
  have := tattingref7_first_l a b ha hb (T a b i j) i j x y (by omega) hf _ i j rfl (Nat.le_refl _) (Nat.le_refl _) (by have := hf.1; have := hf.2.1; omega) hj
  refine Ev.step (fun k => ?_) this
  unfold tattingref7_first.f
  rw [tattingref7_first.l0, if_pos (by have := hf.1; omega)]
theorem tattingref7_Least_l0 (a b : List Int) (ha : a.length ≤ 100000) (hb : b.length ≤ 100000) : ∀ (l : List S28) (i j : Nat) (acc : List S28), i ≤ a.length → j ≤ b.length → acc.length ≤ i → isLeast a b i j l →
    Ev (fun k => tattingref7_Least.l0 k a b (behind a b) acc i j (T a b i j : Nat)) (acc ++ l)
  | [], i, j, acc, hi, hj, hacc, h => by
    have h : T a b i j = 0 := h
    refine Ev.step (f := fun _ => some _) (fun k => ?_) (Ev.now _)
    rw [tattingref7_Least.l0, if_neg (by omega), List.append_nil]
  | p :: l, i, j, acc, hi, hj, hacc, ⟨x, y, hp, hf, hl⟩ => by
    subst hp
    have hx := hf.2.2.1.1
    have hy := hf.2.2.1.2.1
    have hT := hf.2.2.1.2.2.2
    have t1 := T_le_left a b i j
    have ih := tattingref7_Least_l0 a b ha hb l (x + 1) (y + 1) (acc ++ [⟨x, y⟩]) (by omega) (by omega) (by simp; have := hf.1; omega) hl
    have hn := tattingref7_first_some a b ha hb i j x y hi hj hf
    rw [List.append_assoc, List.singleton_append] at ih
    refine Ev.step (f := fun k => (tattingref7_first.f k a b (behind a b) i j (T a b i j : Nat)).bind fun bt => if acc.length < 8796093022208 then tattingref7_Least.l0 k a b (behind a b) (acc ++ [⟨bt.1, bt.2⟩]) (wrap64 (bt.1 + 1)) (wrap64 (bt.2 + 1)) (wrap64 (((T a b i j : Nat) : Int) - 1)) else none) (fun k => ?_) (Ev.bind hn ?_)
    · rw [tattingref7_Least.l0, if_pos (by omega)]
    · refine Ev.congr (fun k => ?_) ih
      rw [if_pos (by omega), wr (x := (x : Int) + 1) (by omega) (by omega), wr (x := (y : Int) + 1) (by omega) (by omega), wr (x := ((T a b i j : Nat) : Int) - 1) (by omega) (by omega), show ((T a b i j : Nat) : Int) - 1 = ((T a b (x + 1) (y + 1) : Nat) : Int) by omega]
      simp
theorem tattingref7_Least_eq (a b : List Int) (ha : a.length ≤ 100000) (hb : b.length ≤ 100000) (l : List S28) (h : isLeast a b 0 0 l) : Ev (fun k => tattingref7_Least.f k a b) l := by
  unfold tattingref7_Least.f
  refine Ev.bind (tattingref7_Behind_eq a b ha hb) ?_
  have l0 : (behind a b).length = a.length + 1 := seq_length _ _
  have e3 : rd_L2 (behind a b) 0 = seq (b.length + 1) fun r => (T a b 0 r : Int) := rd_L2_seq _ (p := 0) (by omega) rfl
  have l1 : (seq (b.length + 1) fun r => (T a b 0 r : Int)).length = b.length + 1 := seq_length _ _
  have e4 := rd_seq (n := b.length + 1) (fun r => (T a b 0 r : Int)) (i := 0) (p := 0) (by omega) rfl
  have := tattingref7_Least_l0 a b ha hb l 0 0 [] (by omega) (by omega) (by simp) h
  refine Ev.congr (fun k => ?_) this
  simp (disch := omega) only [if_pos, e3, e4, l0, l1]
  rfl

theorem pair_ext {x y : S28} (h0 : x.f0 = y.f0) (h1 : x.f1 = y.f1) : x = y := by
  cases x; cases y; simp only at h0 h1; rw [h0, h1]
theorem tattingref1_SamePairs_l0 (a b : List S28) (ha : a.length ≤ 1000000) (hl : a.length = b.length) : ∀ (d k i : Nat), i + d = a.length → d < k →
    (a.drop i = b.drop i → tattingref1_SamePairs.l0 k a b i = some true) ∧ (a.drop i ≠ b.drop i → tattingref1_SamePairs.l0 k a b i = some false) := by
  intro d
  induction d with
  | zero =>
    intro k i hi hk
    obtain ⟨k, rfl⟩ : ∃ m, k = m + 1 := ⟨k - 1, by omega⟩
    rw [List.drop_eq_nil_of_le (by omega), List.drop_eq_nil_of_le (by omega), tattingref1_SamePairs.l0, if_neg (by omega)]
    simp
  | succ d ih =>
    intro k i hi hk
    obtain ⟨k, rfl⟩ : ∃ m, k = m + 1 := ⟨k - 1, by omega⟩
    obtain ⟨h1, h2⟩ := ih k (i + 1) (by omega) (by omega)
    simp only [Int.natCast_add, Int.cast_ofNat_Int] at h1 h2
    have e1 : rd_T28 a (i : Int) = a.getD i z28 := rfl
    have e2 : rd_T28 b (i : Int) = b.getD i z28 := rfl
    rw [drop_getD_pair (show i < a.length by omega), drop_getD_pair (show i < b.length by omega), tattingref1_SamePairs.l0, if_pos (by omega), if_pos (by omega), if_pos (by omega), e1, e2, wr (by omega) (by omega)]
    generalize a.getD i z28 = x at *
    generalize b.getD i z28 = y at *
    by_cases c0 : x.f0 = y.f0
    · by_cases c1 : x.f1 = y.f1
      · have e : x = y := pair_ext c0 c1
        have t : (!(x.f0 == y.f0) || !(x.f1 == y.f1)) = false := by rw [beq_iff_eq.2 c0, beq_iff_eq.2 c1]; rfl
        rw [t, ift]
        refine ⟨fun h => h1 (List.cons.inj h).2, fun h => h2 fun h' => h (by rw [e, h'])⟩
      · have t : (!(x.f0 == y.f0) || !(x.f1 == y.f1)) = true := by rw [beq_eq_false_iff_ne.2 c1]; simp
        rw [t, itt]
        exact ⟨fun h => absurd (congrArg S28.f1 (List.cons.inj h).1) c1, fun _ => rfl⟩
    · have t : (!(x.f0 == y.f0) || !(x.f1 == y.f1)) = true := by rw [beq_eq_false_iff_ne.2 c0]; simp
      rw [t, itt]
      exact ⟨fun h => absurd (congrArg S28.f0 (List.cons.inj h).1) c0, fun _ => rfl⟩
theorem tattingref1_SamePairs_same (a : List S28) (ha : a.length ≤ 1000000) (k : Nat) (hk : a.length < k) : tattingref1_SamePairs.f k a a = some true := by
  unfold tattingref1_SamePairs.f
  rw [if_pos rfl]
  exact (tattingref1_SamePairs_l0 a a ha rfl a.length k 0 (by omega) hk).1 rfl
theorem tattingref1_SamePairs_other (a b : List S28) (h : a ≠ b) (ha : a.length ≤ 1000000) (k : Nat) (hk : a.length < k) : tattingref1_SamePairs.f k a b = some false := by
  unfold tattingref1_SamePairs.f
  by_cases hl : (a.length : Int) = b.length
  · rw [if_pos hl]
    exact (tattingref1_SamePairs_l0 a b ha (by omega) a.length k 0 (by omega) hk).2 (by simpa using h)
  · rw [if_neg hl]

def turnP (l : List S28) : List S28 := l.map fun p => ⟨p.f1, p.f0⟩
def moveP (i j : Int) (l : List S28) : List S28 := l.map fun p => ⟨wrap64 (p.f0 + i), wrap64 (p.f1 + j)⟩
theorem turnP_length (l : List S28) : (turnP l).length = l.length := by simp [turnP]
theorem moveP_length (i j : Int) (l : List S28) : (moveP i j l).length = l.length := by simp [moveP]
theorem turnP_turnP (l : List S28) : turnP (turnP l) = l := by
  unfold turnP
  rw [List.map_map]
  exact (List.map_congr_left (fun p _ => by cases p; rfl)).trans (List.map_id l)
theorem turnP_moveP (i j : Int) (l : List S28) : turnP (moveP i j l) = moveP j i (turnP l) := by simp [turnP, moveP]
theorem good_turn (a b : List Int) : ∀ (l : List S28) (p q : Int), good b a q p (turnP l) = good a b p q l
  | [], _, _ => rfl
  | x :: l, p, q => by
    rw [Bool.eq_iff_iff]
    unfold turnP
    rw [List.map_cons, good_cons, good_cons, okPair_iff, okPair_iff]
    have h := good_turn a b l x.f0 x.f1
    unfold turnP at h
    rw [h]
    exact ⟨fun ⟨⟨h1, h2, h3, h4, h5, h6, h7⟩, h8⟩ => ⟨⟨h3, h4, h1, h2, h5.symm, h7, h6⟩, h8⟩, fun ⟨⟨h1, h2, h3, h4, h5, h6, h7⟩, h8⟩ => ⟨⟨h3, h4, h1, h2, h5.symm, h7, h6⟩, h8⟩⟩
theorem rd_ahead (u a : List Int) (i : Int) (n : Nat) (hu : u.length = n) (h : 0 ≤ i) : rd (u ++ a) (i + n) = rd a i := by
  obtain ⟨p, rfl⟩ := Int.eq_ofNat_of_zero_le h
  rw [show (p : Int) + n = ((n + p : Nat) : Int) by omega, rd_nat, rd_nat, List.getD_eq_getElem?_getD, List.getD_eq_getElem?_getD, List.getElem?_append_right (by omega)]
  congr 2; omega
theorem good_move (a b u v : List Int) (n m : Nat) (hu : u.length = n) (hv : v.length = m) (ha : a.length ≤ 1000000) (hb : b.length ≤ 1000000) (hn : n ≤ 1000000) (hm : m ≤ 1000000) : ∀ (l : List S28) (p q : Int), good a b p q l = true → good (u ++ a) (v ++ b) (p + n) (q + m) (moveP n m l) = true
  | [], _, _, _ => rfl
  | x :: l, p, q, h => by
    unfold moveP
    rw [List.map_cons]
    rw [good_cons, okPair_iff] at h ⊢
    obtain ⟨⟨h1, h2, h3, h4, h5, h6, h7⟩, h8⟩ := h
    have ih := good_move a b u v n m hu hv ha hb hn hm l x.f0 x.f1 h8
    unfold moveP at ih
    rw [wr (by omega) (by omega), wr (by omega) (by omega)]
    dsimp only
    rw [rd_ahead u a x.f0 n hu h1, rd_ahead v b x.f1 m hv h3, List.length_append, List.length_append]
    exact ⟨⟨by omega, by omega, by omega, by omega, h5, by omega, by omega⟩, ih⟩
def valuesP (a : List Int) : List S28 → List Int
  | [] => []
  | x :: l => if 0 ≤ x.f0 ∧ x.f0 < a.length then rd a x.f0 :: valuesP a l else valuesP a l
theorem valuesP_length (a : List Int) : ∀ l : List S28, (valuesP a l).length ≤ l.length
  | [] => Nat.le_refl _
  | x :: l => by
    have := valuesP_length a l
    unfold valuesP
    split <;> simp <;> omega
theorem valuesP_snoc (a : List Int) (x : S28) : ∀ l : List S28, valuesP a (l ++ [x]) = valuesP a l ++ (if 0 ≤ x.f0 ∧ x.f0 < a.length then [rd a x.f0] else [])
  | [] => by simp [valuesP]
  | y :: l => by
    rw [List.cons_append, valuesP, valuesP, valuesP_snoc a x l]
    split <;> simp
theorem good_values {a b : List Int} : ∀ (l : List S28) (p q : Int), good a b p q l = true → (valuesP a l).length = l.length ∧ valuesP b (turnP l) = valuesP a l
  | [], _, _, _ => ⟨rfl, rfl⟩
  | x :: l, p, q, h => by
    rw [good_cons, okPair_iff] at h
    obtain ⟨⟨h1, h2, h3, h4, h5, h6, h7⟩, h8⟩ := h
    obtain ⟨i1, i2⟩ := good_values l _ _ h8
    unfold turnP at i2 ⊢
    rw [List.map_cons, valuesP, valuesP, if_pos ⟨h1, h2⟩, if_pos ⟨h3, h4⟩, i2, h5]
    exact ⟨by simp [i1], rfl⟩
theorem good_values_sub {a b : List Int} : ∀ (l : List S28) (p q : Nat), good a b ((p : Int) - 1) ((q : Int) - 1) l = true → (valuesP a l).Sublist (a.drop p)
  | [], _, _, _ => by simp [valuesP]
  | x :: l, p, q, h => by
    rw [good_cons, okPair_iff] at h
    obtain ⟨⟨h1, h2, h3, h4, h5, h6, h7⟩, h8⟩ := h
    obtain ⟨i, hi⟩ := Int.eq_ofNat_of_zero_le h1
    obtain ⟨j, hj⟩ := Int.eq_ofNat_of_zero_le h3
    have ih := good_values_sub l (i + 1) (j + 1) (by rw [hi, hj] at h8; simpa using h8)
    rw [valuesP, if_pos ⟨h1, h2⟩, hi, rd_nat]
    have e : (a.drop i).Sublist (a.drop p) := by
      rw [show i = p + (i - p) by omega, ← List.drop_drop]; exact List.drop_sublist _ _
    refine List.Sublist.trans ?_ e
    rw [drop_getD (show i < a.length by omega)]
    exact ih.cons_cons _
/-- Taken greedily, a list lies within another one just if it is a sublist of it. -/
def greedy : List Int → List Int → Bool
  | [], _ => true
  | _ :: _, [] => false
  | x :: s, y :: b => if y = x then greedy s b else greedy (x :: s) b
theorem greedy_iff (s b : List Int) : greedy s b = true ↔ s.Sublist b := by
  induction b generalizing s with
  | nil => cases s <;> simp [greedy]
  | cons y b ih =>
    cases s with
    | nil => simp [greedy]
    | cons x s =>
      by_cases c : y = x
      · rw [greedy, if_pos c, ih, c]
        exact ⟨fun h => h.cons_cons _, fun h => List.cons_sublist_cons.1 h⟩
      · rw [greedy, if_neg c, ih]
        refine ⟨fun h => h.cons _, fun h => ?_⟩
        cases h with
        | cons _ h => exact h
        | cons_cons _ h => exact absurd rfl c

theorem take_getD_pair {xs : List S28} {i : Nat} (h : i < xs.length) : xs.take (i + 1) = xs.take i ++ [xs.getD i z28] := by
  rw [List.take_succ_eq_append_getElem h]; simp [List.getD_eq_getElem?_getD, h]
theorem set_snoc (A : List S28) (m p : Nat) (z v : S28) (h : A.length = p) : (A ++ List.replicate (m + 1) z).set p v = (A ++ [v]) ++ List.replicate m z := by
  rw [List.set_append_right _ _ (by omega), h, Nat.sub_self, List.replicate_succ, List.set_cons_zero]; simp
theorem pairs_Turn_l0 (l : List S28) (hl : l.length ≤ 1000000) : ∀ (d k p : Nat), p + d = l.length → d < k →
    pairs_Turn.l0 k (turnP (l.take p) ++ List.replicate d z28) l l.length p = some (turnP l) := by
  intro d
  induction d with
  | zero =>
    intro k p hp hk
    obtain ⟨k, rfl⟩ : ∃ m, k = m + 1 := ⟨k - 1, by omega⟩
    rw [pairs_Turn.l0, if_neg (by omega), List.take_of_length_le (by omega)]; simp
  | succ d ih =>
    intro k p hp hk
    obtain ⟨k, rfl⟩ : ∃ m, k = m + 1 := ⟨k - 1, by omega⟩
    have e1 : rd_T28 l (p : Int) = l.getD p z28 := rfl
    have h4 := ih k (p + 1) (by omega) (by omega)
    have hA : (turnP (l.take p)).length = p := by rw [turnP_length]; simp; omega
    have hlen : (turnP (l.take p) ++ List.replicate (d + 1) z28).length = l.length := by simp [hA]; omega
    rw [pairs_Turn.l0, if_pos (by omega), if_pos (by omega), if_pos (by omega), if_pos (by omega), e1, Int.toNat_natCast, set_snoc _ d p _ _ hA, wr (by omega) (by omega)]
    rw [take_getD_pair (show p < l.length by omega)] at h4
    unfold turnP at h4 ⊢
    rw [List.map_append] at h4
    exact_mod_cast h4
theorem pairs_Turn_eq (l : List S28) (hl : l.length ≤ 1000000) (k : Nat) (hk : l.length < k) : pairs_Turn.f k l = some (turnP l) := by
  have := pairs_Turn_l0 l hl l.length k 0 (by omega) hk
  unfold pairs_Turn.f
  rw [if_pos (by omega), Int.toNat_natCast, if_pos (by omega)]
  simpa [turnP] using this

theorem pairs_is_eq (a : List Int) (i : Int) : pairs_is.f a i = some (decide (0 ≤ i ∧ i < a.length)) := by
  unfold pairs_is.f
  by_cases h : i ≥ 0
  · rw [if_pos h]; congr 1; rw [decide_eq_decide]; omega
  · rw [if_neg h]; congr 1; symm; exact decide_eq_false (by omega)
theorem pairs_Good_l0 (a b : List Int) (l : List S28) (hl : l.length ≤ 1000000) : ∀ (d k p : Nat) (li lj : Int), p + d = l.length → d < k →
    pairs_Good.l0 k a b l l.length p li lj = some (good a b li lj (l.drop p)) := by
  intro d
  induction d with
  | zero =>
    intro k p li lj hp hk
    obtain ⟨k, rfl⟩ : ∃ m, k = m + 1 := ⟨k - 1, by omega⟩
    rw [pairs_Good.l0, if_neg (by omega), List.drop_eq_nil_of_le (by omega)]
    rfl
  | succ d ih =>
    intro k p li lj hp hk
    obtain ⟨k, rfl⟩ : ∃ m, k = m + 1 := ⟨k - 1, by omega⟩
    have e1 : rd_T28 l (p : Int) = l.getD p z28 := rfl
    rw [drop_getD_pair (show p < l.length by omega)]
    rw [pairs_Good.l0, if_pos (by omega), if_pos (by omega), if_pos (by omega), e1]
    generalize l.getD p z28 = x at *
    have h4 := ih k (p + 1) x.f0 x.f1 (by omega) (by omega)
    simp only [Int.natCast_add, Int.cast_ofNat_Int] at h4
    rw [pairs_is_eq, bs]
    by_cases c1 : 0 ≤ x.f0 ∧ x.f0 < a.length
    · rw [decide_eq_true c1, itt, pairs_is_eq, bs]
      by_cases c2 : 0 ≤ x.f1 ∧ x.f1 < b.length
      · rw [decide_eq_true c2, itt, if_pos c1.1, if_pos c1.2, if_pos c2.1, if_pos c2.2]
        by_cases c5 : rd a x.f0 = rd b x.f1
        · rw [if_pos c5]
          by_cases c7 : x.f0 ≤ li
          · rw [if_pos c7]
            symm; congr 1; rw [← Bool.not_eq_true, good_cons, okPair_iff]; omega
          rw [if_neg c7]
          by_cases c8 : x.f1 ≤ lj
          · rw [if_pos c8]
            symm; congr 1; rw [← Bool.not_eq_true, good_cons, okPair_iff]; omega
          rw [if_neg c8, wr (by omega) (by omega), h4]
          congr 1
          rw [Bool.eq_iff_iff, good_cons, okPair_iff]
          exact ⟨fun h => ⟨⟨by omega, by omega, by omega, by omega, c5, by omega, by omega⟩, h⟩, fun h => h.2⟩
        · rw [if_neg c5]
          symm; congr 1; rw [← Bool.not_eq_true, good_cons, okPair_iff]; exact fun h => c5 h.1.2.2.2.2.1
      · rw [decide_eq_false c2, ift]
        symm; congr 1; rw [← Bool.not_eq_true, good_cons, okPair_iff]; omega
    · rw [decide_eq_false c1, ift]
      symm; congr 1; rw [← Bool.not_eq_true, good_cons, okPair_iff]; omega
theorem pairs_Good_eq (a b : List Int) (l : List S28) (hl : l.length ≤ 1000000) (k : Nat) (hk : l.length < k) : pairs_Good.f k a b l = some (good a b (-1) (-1) l) := by
  have := pairs_Good_l0 a b l hl l.length k 0 (-1) (-1) (by omega) hk
  unfold pairs_Good.f
  simpa using this

def idxI : List Int → Int → Nat
  | [], _ => 0
  | y :: b, x => if y = x then 0 else idxI b x + 1
theorem idxI_le (x : Int) : ∀ (b : List Int) (j : Nat), j < b.length → b.getD j 0 = x → idxI b x ≤ j ∧ b.getD (idxI b x) 0 = x
  | [], _, h, _ => by simp at h
  | y :: b, j, h, e => by
    by_cases c : y = x
    · rw [idxI, if_pos c]; exact ⟨Nat.zero_le _, by simpa using c⟩
    · rw [idxI, if_neg c]
      cases j with
      | zero => exact absurd (by simpa using e) c
      | succ j =>
        have := idxI_le x b j (by simpa using h) (by simpa using e)
        exact ⟨by omega, by simpa using this.2⟩
/-- The first place of a number, from a place on. -/
def placeFrom (b : List Int) (x : Int) (s : Nat) : Nat := s + idxI (b.drop s) x
theorem placeFrom_ge (b : List Int) (x : Int) (s : Nat) : s ≤ placeFrom b x s := Nat.le_add_right _ _
theorem placeFrom_le {b : List Int} {x : Int} {s j : Nat} (hs : s ≤ j) (hj : j < b.length) (e : b.getD j 0 = x) : placeFrom b x s ≤ j ∧ b.getD (placeFrom b x s) 0 = x := by
  have h := idxI_le x (b.drop s) (j - s) (by simp; omega) (by
    rw [List.getD_eq_getElem?_getD, List.getElem?_drop, show s + (j - s) = j by omega, ← List.getD_eq_getElem?_getD]; exact e)
  unfold placeFrom
  refine ⟨by omega, ?_⟩
  have h2 := h.2
  rw [List.getD_eq_getElem?_getD, List.getElem?_drop, ← List.getD_eq_getElem?_getD] at h2
  exact h2
theorem placeFrom_here {b : List Int} {x : Int} {s : Nat} (hs : s < b.length) (e : b.getD s 0 = x) : placeFrom b x s = s := by
  have := (placeFrom_le (Nat.le_refl s) hs e).1
  have := placeFrom_ge b x s
  omega
theorem placeFrom_next {b : List Int} {x : Int} {s : Nat} (hs : s < b.length) (e : b.getD s 0 ≠ x) : placeFrom b x s = placeFrom b x (s + 1) := by
  unfold placeFrom
  rw [drop_getD hs, idxI, if_neg e]
  omega
theorem placeFrom_mid {b : List Int} {x : Int} {s j : Nat} (h : s ≤ j) (h' : j ≤ placeFrom b x s) (hl : placeFrom b x s < b.length) : placeFrom b x j = placeFrom b x s := by
  induction h with
  | refl => rfl
  | @step m hm ih =>
    have ih := ih (by omega)
    have hne : b.getD m 0 ≠ x := fun e => by
      have := (placeFrom_le hm (by omega) e).1
      omega
    rw [← placeFrom_next (by omega) hne]
    exact ih
def leftP (a b : List Int) : Nat → List S28 → List S28
  | _, [] => []
  | s, p :: l => ⟨p.f0, (placeFrom b (rd a p.f0) s : Nat)⟩ :: leftP a b (placeFrom b (rd a p.f0) s + 1) l
theorem leftP_length (a b : List Int) : ∀ (l : List S28) (s : Nat), (leftP a b s l).length = l.length
  | [], _ => rfl
  | p :: l, s => by simp [leftP, leftP_length a b l]
/-- Where the second place of a good pair comes to. -/
theorem left_place {a b : List Int} {pi : Int} {s : Nat} {x : S28} (h : okPair a b pi ((s : Int) - 1) x = true) :
    ((placeFrom b (rd a x.f0) s : Nat) : Int) ≤ x.f1 ∧ rd b (placeFrom b (rd a x.f0) s : Nat) = rd a x.f0 ∧ placeFrom b (rd a x.f0) s < b.length ∧ s ≤ placeFrom b (rd a x.f0) s := by
  rw [okPair_iff] at h
  obtain ⟨h1, h2, h3, h4, h5, h6, h7⟩ := h
  obtain ⟨v, hv⟩ := Int.eq_ofNat_of_zero_le h3
  have e : b.getD v 0 = rd a x.f0 := by rw [h5, hv, rd_nat]
  have h8 := placeFrom_le (s := s) (j := v) (by omega) (by omega) e
  exact ⟨by omega, by rw [rd_nat]; exact h8.2, by omega, placeFrom_ge _ _ _⟩
theorem left_good {a b : List Int} : ∀ (l : List S28) (pi : Int) (s : Nat), good a b pi ((s : Int) - 1) l = true → good a b pi ((s : Int) - 1) (leftP a b s l) = true
  | [], _, _, _ => rfl
  | x :: l, pi, s, h => by
    rw [good_cons] at h
    obtain ⟨h0, h8⟩ := h
    have hp := left_place h0
    rw [okPair_iff] at h0
    obtain ⟨h1, h2, h3, h4, h5, h6, h7⟩ := h0
    rw [leftP, good_cons, okPair_iff]
    refine ⟨⟨h1, h2, by dsimp only; omega, by dsimp only; omega, hp.2.1.symm, h6, by dsimp only; omega⟩, ?_⟩
    have := left_good l x.f0 (placeFrom b (rd a x.f0) s + 1) (good_weaken (Int.le_refl _) (by omega) h8)
    simpa using this
theorem left_left {a b : List Int} : ∀ (l : List S28) (pi : Int) (s : Nat), good a b pi ((s : Int) - 1) l = true → leftP a b s (leftP a b s l) = leftP a b s l
  | [], _, _, _ => rfl
  | x :: l, pi, s, h => by
    rw [good_cons] at h
    obtain ⟨h0, h8⟩ := h
    have hp := left_place h0
    have := left_left l x.f0 (placeFrom b (rd a x.f0) s + 1) (good_weaken (Int.le_refl _) (by omega) h8)
    rw [leftP, leftP]
    dsimp only
    rw [this]
theorem left_notless {a b : List Int} : ∀ (l : List S28) (pi : Int) (s : Nat), good a b pi ((s : Int) - 1) l = true → lessP l (leftP a b s l) = false
  | [], _, _, _ => rfl
  | x :: l, pi, s, h => by
    rw [good_cons] at h
    obtain ⟨h0, h8⟩ := h
    have hp := left_place h0
    have := left_notless l x.f0 (placeFrom b (rd a x.f0) s + 1) (good_weaken (Int.le_refl _) (by omega) h8)
    rw [leftP, lessP, if_pos rfl]
    dsimp only
    split
    · exact this
    · exact decide_eq_false (by omega)
theorem top_notless {a b : List Int} : ∀ (l : List S28) (pj : Int) (s : Nat), good b a pj ((s : Int) - 1) (turnP l) = true → lessP l (turnP (leftP b a s (turnP l))) = false
  | [], _, _, _ => rfl
  | x :: l, pj, s, h => by
    unfold turnP at h
    rw [List.map_cons, good_cons] at h
    obtain ⟨h0, h8⟩ := h
    have hp := left_place h0
    dsimp only at hp
    have := top_notless l x.f1 (placeFrom a (rd b x.f1) s + 1) (good_weaken (Int.le_refl _) (by dsimp only; omega) h8)
    unfold turnP at this ⊢
    rw [List.map_cons, leftP, List.map_cons, lessP]
    dsimp only
    rw [if_pos rfl]
    split
    · exact this
    · exact decide_eq_false (by omega)
theorem left_least {a b : List Int} : ∀ (l : List S28) (i j : Nat), isLeast a b i j l → leftP a b j l = l
  | [], _, _, _ => rfl
  | r :: l, i, j, ⟨x, y, hr, hf, hl⟩ => by
    have ih := left_least l _ _ hl
    obtain ⟨f1, f2, ⟨g1, g2, g3, g4⟩, f4⟩ := hf
    have hp := placeFrom_le f2 g2 g3.symm
    have hge := placeFrom_ge b (a.getD x 0) j
    have e : placeFrom b (a.getD x 0) j = y := by
      refine Nat.le_antisymm hp.1 (Nat.le_of_not_lt fun hlt => ?_)
      refine f4 x (placeFrom b (a.getD x 0) j) f1 hge (.inr ⟨rfl, hlt⟩) ⟨g1, by omega, hp.2.symm, ?_⟩
      have t1 := T_mono a b (i := x + 1) (j := placeFrom b (a.getD x 0) j + 1) (x := x + 1) (y := y + 1) (by omega) (by omega)
      have t2 := T_pair (a := a) (b := b) (x := x) (y := placeFrom b (a.getD x 0) j) g1 (by omega) hp.2.symm
      have t3 := T_mono a b (i := i) (j := j) (x := x) (y := placeFrom b (a.getD x 0) j) f1 hge
      omega
    rw [leftP, hr]
    dsimp only
    rw [rd_nat, e, ih]
theorem top_least {a b : List Int} : ∀ (l : List S28) (i j : Nat), isLeast a b i j l → turnP (leftP b a i (turnP l)) = l
  | [], _, _, _ => rfl
  | r :: l, i, j, ⟨x, y, hr, hf, hl⟩ => by
    have ih := top_least l _ _ hl
    obtain ⟨f1, f2, ⟨g1, g2, g3, g4⟩, f4⟩ := hf
    have hp := placeFrom_le f1 g1 g3
    have hge := placeFrom_ge a (b.getD y 0) i
    have e : placeFrom a (b.getD y 0) i = x := by
      refine Nat.le_antisymm hp.1 (Nat.le_of_not_lt fun hlt => ?_)
      refine f4 (placeFrom a (b.getD y 0) i) y hge f2 (.inl hlt) ⟨by omega, g2, hp.2, ?_⟩
      have t1 := T_mono a b (i := placeFrom a (b.getD y 0) i + 1) (j := y + 1) (x := x + 1) (y := y + 1) (by omega) (by omega)
      have t2 := T_pair (a := a) (b := b) (x := placeFrom a (b.getD y 0) i) (y := y) (by omega) g2 hp.2
      have t3 := T_mono a b (i := i) (j := j) (x := placeFrom a (b.getD y 0) i) (y := y) hge f2
      omega
    unfold turnP at ih ⊢
    rw [List.map_cons, leftP, List.map_cons, hr]
    dsimp only
    rw [rd_nat, e, ih]

theorem slices_Index_l0 (a : List Int) (x : Int) (ha : a.length ≤ 1000000) : ∀ (d k p : Nat), p + d = a.length → d < k →
    slices_Index_int_int.l0 k a x a.length p = some (if p + idxI (a.drop p) x < a.length then ((p + idxI (a.drop p) x : Nat) : Int) else -1) := by
  intro d
  induction d with
  | zero =>
    intro k p hp hk
    obtain ⟨k, rfl⟩ : ∃ m, k = m + 1 := ⟨k - 1, by omega⟩
    rw [slices_Index_int_int.l0, if_neg (by omega), List.drop_eq_nil_of_le (by omega), idxI, if_neg (by omega)]
  | succ d ih =>
    intro k p hp hk
    obtain ⟨k, rfl⟩ : ∃ m, k = m + 1 := ⟨k - 1, by omega⟩
    have e1 : rd a (p : Int) = a.getD p 0 := rfl
    have h1 := ih k (p + 1) (by omega) (by omega)
    simp only [Int.natCast_add, Int.cast_ofNat_Int] at h1
    rw [slices_Index_int_int.l0, if_pos (by omega), if_pos (by omega), if_pos (by omega), wr (by omega) (by omega), e1, drop_getD (show p < a.length by omega), idxI]
    by_cases c : a.getD p 0 = x
    · rw [if_pos c.symm, if_pos c, if_pos (by omega)]; rfl
    · rw [if_neg (Ne.symm c), if_neg c, h1]
      by_cases c2 : p + 1 + idxI (a.drop (p + 1)) x < a.length
      · rw [if_pos c2, if_pos (by omega)]; congr 1; omega
      · rw [if_neg c2, if_neg (by omega)]
theorem canon_first_eq (b : List Int) (x : Int) (s : Nat) (hb : b.length ≤ 1000000) (h : placeFrom b x s < b.length) (k : Nat) (hk : b.length < k) : canon_first.f k b x ((s : Int) - 1) = some ((placeFrom b x s : Nat) : Int) := by
  have hs := placeFrom_ge b x s
  have hl : (b.drop s).length = b.length - s := by simp
  have h1 := slices_Index_l0 (b.drop s) x (by omega) (b.drop s).length k 0 (by omega) (by omega)
  rw [List.drop_zero] at h1
  unfold placeFrom at h ⊢
  rw [if_pos (by omega)] at h1
  unfold canon_first.f slices_Index_int_int.f
  have e : ((s : Int) - 1 + 1) = s := by omega
  rw [e, wr (x := (s : Int)) (by omega) (by omega), if_pos (by omega), if_pos (by omega), Int.toNat_natCast]
  have h2 : slices_Index_int_int.l0 k (b.drop s) x ((b.drop s).length : Int) 0 = some ((0 + idxI (b.drop s) x : Nat) : Int) := h1
  rw [h2, bs, wr (by omega) (by omega)]
  congr 1; omega
theorem canon_Left_l0 (a b : List Int) (l : List S28) (hb : b.length ≤ 1000000) (hl : l.length ≤ 1000000) : ∀ (d k p : Nat) (acc : List S28) (pi : Int) (s : Nat), p + d = l.length → acc.length ≤ p → d + b.length < k → good a b pi ((s : Int) - 1) (l.drop p) = true →
    canon_Left.l0 k b acc ((s : Int) - 1) l l.length p = some (acc ++ leftP a b s (l.drop p), 0) := by
  intro d
  induction d with
  | zero =>
    intro k p acc pi s hp ha hk hg
    obtain ⟨k, rfl⟩ : ∃ m, k = m + 1 := ⟨k - 1, by omega⟩
    rw [canon_Left.l0, if_neg (by omega), List.drop_eq_nil_of_le (by omega), leftP, List.append_nil]
  | succ d ih =>
    intro k p acc pi s hp ha hk hg
    obtain ⟨k, rfl⟩ : ∃ m, k = m + 1 := ⟨k - 1, by omega⟩
    have e1 : rd_T28 l (p : Int) = l.getD p z28 := rfl
    rw [drop_getD_pair (show p < l.length by omega)] at hg ⊢
    rw [good_cons] at hg
    obtain ⟨h0, h8⟩ := hg
    have hp2 := left_place h0
    have hok := (okPair_iff _ _ _ _ _).1 h0
    rw [canon_Left.l0, if_pos (by omega), if_pos (by omega), if_pos (by omega), e1]
    generalize l.getD p z28 = x at *
    have h4 := ih k (p + 1) (acc ++ [⟨x.f0, (placeFrom b (rd a x.f0) s : Nat)⟩]) x.f0 (placeFrom b (rd a x.f0) s + 1) (by omega) (by simp; omega) (by omega) (good_weaken (Int.le_refl _) (by omega) h8)
    have e3 : (((placeFrom b (rd a x.f0) s + 1 : Nat) : Int) - 1) = (placeFrom b (rd a x.f0) s : Nat) := by omega
    rw [e3] at h4
    simp only [Int.natCast_add, Int.cast_ofNat_Int] at h4
    rw [if_pos hok.2.2.1, if_pos hok.2.2.2.1, ← hok.2.2.2.2.1, canon_first_eq b _ s hb hp2.2.2.1 k (by omega), bs, if_pos (by omega), wr (by omega) (by omega), h4, leftP, List.append_assoc]
    rfl
theorem canon_Left_good (a b : List Int) (l : List S28) (hb : b.length ≤ 1000000) (hl : l.length ≤ 1000000) (k : Nat) (hk : l.length + b.length < k) (hg : good a b (-1) (-1) l = true) : canon_Left.f k a b l = some (leftP a b 0 l, 0) := by
  unfold canon_Left.f
  rw [pairs_Good_eq a b l hl k (by omega), bs, if_pos hg]
  exact canon_Left_l0 a b l hb hl l.length k 0 [] (-1) 0 (by omega) (by simp) hk hg
theorem canon_Left_bad (a b : List Int) (l : List S28) (hl : l.length ≤ 1000000) (k : Nat) (hk : l.length < k) (hg : ¬ good a b (-1) (-1) l = true) : canon_Left.f k a b l = some ([], 1) := by
  unfold canon_Left.f
  rw [pairs_Good_eq a b l hl k (by omega), bs, if_neg hg]
theorem canon_Top_good (a b : List Int) (l : List S28) (ha : a.length ≤ 1000000) (hl : l.length ≤ 1000000) (k : Nat) (hk : l.length + a.length < k) (hg : good a b (-1) (-1) l = true) : canon_Top.f k a b l = some (turnP (leftP b a 0 (turnP l)), 0) := by
  have h1 := turnP_length l
  have h2 := leftP_length b a (turnP l) 0
  unfold canon_Top.f
  rw [pairs_Turn_eq l hl k (by omega), bs, canon_Left_good b a (turnP l) ha (by omega) k (by omega) (by rw [good_turn]; exact hg), bs]
  dsimp only
  rw [pairs_Turn_eq _ (by omega) k (by omega), bs]
theorem canon_Top_bad (a b : List Int) (l : List S28) (hl : l.length ≤ 1000000) (k : Nat) (hk : l.length < k) (hg : ¬ good a b (-1) (-1) l = true) : canon_Top.f k a b l = some ([], 1) := by
  have h1 := turnP_length l
  unfold canon_Top.f
  rw [pairs_Turn_eq l hl k (by omega), bs, canon_Left_bad b a (turnP l) (by omega) k (by omega) (by rw [good_turn]; exact hg), bs]
  dsimp only
  rw [pairs_Turn_eq _ (by simp) k (by simp; omega), bs]
  rfl

theorem lessP_drop_nil (x y : List S28) (h : x.length ≤ y.length) : lessP [] (y.drop x.length) = decide ((x.length : Int) < y.length) := by
  by_cases c : x.length < y.length
  · rw [drop_getD_pair c]
    rw [decide_eq_true (by omega)]; rfl
  · rw [List.drop_eq_nil_of_le (by omega), decide_eq_false (by omega)]; rfl
theorem lessP_end (x y : List S28) (p : Nat) (hx : p ≤ x.length) (hy : p ≤ y.length) (h : p = x.length ∨ p = y.length) : lessP (x.drop p) (y.drop p) = decide ((x.length : Int) < y.length) := by
  rcases h with h | h
  · subst h
    rw [List.drop_eq_nil_of_le (Nat.le_refl _)]
    exact lessP_drop_nil x y hy
  · subst h
    have hn : y.drop y.length = [] := List.drop_eq_nil_of_le (Nat.le_refl _)
    rw [hn]
    rw [decide_eq_false (by omega)]
    cases x.drop y.length <;> rfl

theorem tattingref7_Less_l0 (x y : List S28) (hx : x.length ≤ 1000000) : ∀ (d k p : Nat), p ≤ y.length → p + d = x.length → 2 * d + 1 < k →
    tattingref7_Less.l0 k x y p = some (lessP (x.drop p) (y.drop p)) := by
  intro d
  induction d with
  | zero =>
    intro k p hy hp hk
    obtain ⟨k, rfl⟩ : ∃ m, k = m + 1 + 1 := ⟨k - 2, by omega⟩
    rw [tattingref7_Less.l0, if_neg (by omega), tattingref7_Less.j1, ift, lessP_end x y p (by omega) (by omega) (by omega)]
  | succ d ih =>
    intro k p hy hp hk
    obtain ⟨k, rfl⟩ : ∃ m, k = m + 1 + 1 := ⟨k - 2, by omega⟩
    have e1 : rd_T28 x (p : Int) = x.getD p z28 := rfl
    have e2 : rd_T28 y (p : Int) = y.getD p z28 := rfl
    rw [tattingref7_Less.l0, if_pos (by omega)]
    by_cases c : p < y.length
    · have h4 := ih k (p + 1) (by omega) (by omega) (by omega)
      simp only [Int.natCast_add, Int.cast_ofNat_Int] at h4
      rw [decide_eq_true (by omega), tattingref7_Less.j1, itt, if_pos (by omega), if_pos (by omega), if_pos (by omega), e1, e2, drop_getD_pair (show p < x.length by omega), drop_getD_pair (show p < y.length by omega), lessP, wr (by omega) (by omega), h4]
      split
      · split <;> rfl
      · rfl
    · rw [decide_eq_false (by omega), tattingref7_Less.j1, ift, lessP_end x y p (by omega) (by omega) (by omega)]
theorem tattingref7_Less_eq (x y : List S28) (hx : x.length ≤ 1000000) (k : Nat) (hk : 2 * x.length + 1 < k) : tattingref7_Less.f k x y = some (lessP x y) := by
  unfold tattingref7_Less.f
  exact tattingref7_Less_l0 x y hx x.length k 0 (by omega) (by omega) (by omega)

theorem awake_ev : ∃ K, tattinglaw23_awake.f K = some true := ⟨400, by decide +kernel⟩
theorem law_CanonStays : tattinglaw23_CanonStays.Pure := by
  intro a b m _ _ _ _ _ _ _ _
  have haw : Ev tattinglaw23_awake.f true := by
    obtain ⟨K, h⟩ := awake_ev
    exact Ev.of tattinglaw23_awake.mono h
  refine Ev.rounds (g := fun K => tattinglaw23_CanonStays.f K a b m) ?_
  unfold tattinglaw23_CanonStays.f
  refine Ev.bind haw ?_
  simp only [itt, ifT]
  by_cases ha : (a.length : Int) > 30
  · refine Ev.step (f := fun _ => some true) (fun K => ?_) (Ev.now _)
    rw [if_pos ha, tattinglaw23_CanonStays.j0, itt]
  by_cases hb : (b.length : Int) > 30
  · refine Ev.step (f := fun _ => some true) (fun K => ?_) (Ev.now _)
    rw [if_neg ha, if_pos hb, tattinglaw23_CanonStays.j0, itt]
  by_cases hm : (m.length : Int) > 30
  · refine Ev.step (f := fun _ => some true) (fun K => ?_) (Ev.now _)
    rw [if_neg ha, if_neg hb, decide_eq_true hm, tattinglaw23_CanonStays.j0, itt]
  simp only [if_neg ha, if_neg hb, decide_eq_false hm]
  have la := few_length a 3
  have lb := few_length b 3
  have fa := fun k hk => tattingref1_Few_eq a 3 (by omega) (by omega) (by omega) k hk
  have fb := fun k hk => tattingref1_Few_eq b 3 (by omega) (by omega) (by omega) k hk
  generalize few a 3 = x at *
  generalize few b 3 = y at *
  obtain ⟨l, hl⟩ := isLeast_ex x y _ 0 0 rfl
  have hlen := isLeast_len hl
  have hgood : good x y (-1) (-1) l = true := isLeast_good hl
  have t1 := T_le_left x y 0 0
  have t0 := T_zero x y
  have w1 := left_least l 0 0 hl
  have w2 := top_least l 0 0 hl
  obtain ⟨K1, h1⟩ := tattingref7_Least_eq x y (by omega) (by omega) l hl
  obtain ⟨K2, h2⟩ := least_Of_eq x y (by omega) (by omega) l hl
  obtain ⟨K3, h3⟩ := grid_Len_eq x y (by omega) (by omega)
  refine ⟨1000 + K1 + K2 + K3, fun K hK => ?_⟩
  obtain ⟨K, rfl⟩ : ∃ m, K = m + 1 + 1 := ⟨K - 2, by omega⟩
  have e1 : tattingref7_Least.f (K + 1) x y = some _ := h1 (K + 1) (by omega)
  have e2 : least_Of.f (K + 1) x y = some _ := h2 (K + 1) (by omega)
  have e3 : grid_Len.f (K + 1) x y = some _ := h3 (K + 1) (by omega)
  have e4 : canon_Of.f (K + 1) x y l = some (l, 0) := by
    unfold canon_Of.f
    rw [pairs_Good_eq x y l (by omega) (K + 1) (by omega), bs, if_pos hgood, e3, bs, if_neg (by omega), e2, bs]
  have f1 := fa (K + 1) (by omega)
  have f2 := fb (K + 1) (by omega)
  have e5 := canon_Left_good x y l (by omega) (by omega) (K + 1) (by omega) hgood
  have e6 := canon_Top_good x y l (by omega) (by omega) (K + 1) (by omega) hgood
  rw [w1] at e5
  rw [w2] at e6
  have s1 := tattingref1_SamePairs_same l (by omega) (K + 1) (by omega)
  have hj : tattinglaw23_CanonStays.j1 (K + 1) m x y false = some true := by
    rw [tattinglaw23_CanonStays.j1, ift]
    by_cases hg : good x y (-1) (-1) m = true
    · have l1 := leftP_length x y m 0
      have g1 : good x y (-1) (-1) (leftP x y 0 m) = true := left_good m (-1) 0 hg
      have g2 := left_left m (-1) 0 hg
      have g3 := left_notless m (-1) 0 hg
      have hg' : good y x (-1) (-1) (turnP (leftP x y 0 m)) = true := by rw [good_turn]; exact g1
      have g4 := top_notless (leftP x y 0 m) (-1) 0 hg'
      have g5 : good y x (-1) (-1) (leftP y x 0 (turnP (leftP x y 0 m))) = true := left_good (turnP (leftP x y 0 m)) (-1) 0 hg'
      have g6 : good x y (-1) (-1) (turnP (leftP y x 0 (turnP (leftP x y 0 m)))) = true := by rw [good_turn]; exact g5
      have l2 : (turnP (leftP y x 0 (turnP (leftP x y 0 m)))).length = m.length := by rw [turnP_length, leftP_length, turnP_length, l1]
      have q1 := canon_Left_good x y m (by omega) (by omega) K (by omega) hg
      have q2 := canon_Top_good x y (leftP x y 0 m) (by omega) (by omega) K (by omega) g1
      have q3 := canon_Left_good x y (leftP x y 0 m) (by omega) (by omega) K (by omega) g1
      rw [g2] at q3
      generalize turnP (leftP y x 0 (turnP (leftP x y 0 m))) = n at *
      generalize leftP x y 0 m = u at *
      rw [q1, bs]
      dsimp only
      rw [q2, bs, tattingref7_Good_eq x y m (by omega) (by omega) (by omega) K (by omega), bs, if_pos hg, q3, bs, if_pos rfl]
      dsimp only
      rw [if_pos rfl, tattingref1_SamePairs_same u (by omega) K (by omega), bs, itt, tattingref7_Good_eq x y u (by omega) (by omega) (by omega) K (by omega), bs, if_pos g1,
        tattingref7_Good_eq x y n (by omega) (by omega) (by omega) K (by omega), bs, if_pos g6, if_pos (by omega), if_pos (by omega), tattingref7_Less_eq m u (by omega) K (by omega), bs, g3, ift,
        tattingref7_Less_eq u n (by omega) K (by omega), bs, g4]
      rfl
    · obtain ⟨r, hr⟩ : ∃ r, canon_Top.f K x y [] = some r := ⟨_, canon_Top_good x y [] (by omega) (by simp) K (by simp; omega) rfl⟩
      rw [canon_Left_bad x y m (by omega) K (by omega) hg, bs]
      dsimp only
      rw [hr, bs, tattingref7_Good_eq x y m (by omega) (by omega) (by omega) K (by omega), bs, if_neg hg, if_pos rfl]
      rfl
  show tattinglaw23_CanonStays.j0 (K + 1 + 1) a b m false = some true
  rw [tattinglaw23_CanonStays.j0, ift, f1, bs, f2, bs, e1, bs, e5, bs, e6, bs, e4, bs, if_pos rfl, if_pos rfl, if_pos rfl]
  dsimp only
  rw [s1, bs, itt, bs, itt, bs, Bool.not_true, hj]

theorem CanonStays : tattinglaw23_CanonStays.Pure := law_CanonStays

end Go.Proofs.Ytdegajidkboknaa.Pure
namespace Go.Proofs.Ytdegajidkboknaa.PrintWords
/-- The row's word under the name by which the row calls it. -/
abbrev sized_ints := @Go.Proofs.YtdegajidkboknaaW.PrintWords.sized_ints
end Go.Proofs.Ytdegajidkboknaa.PrintWords
