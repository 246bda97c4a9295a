/- At the distance itself it is told, one below it is not: no condition beside the statement's own. -/
import Derived.Test.YtcjngbpmdmfbdaaPBandEdgex5
import Derived.Test.YtcjngbpmdmfbdaaWSized
namespace Go.Proofs.Ytcjngbpmdmfbdaa.Pure
open Go.RowKit Go.Proofs.Ytcjngbpmdmfbdaa.PBandEdge Go.Proofs.YtcjngbpmdmfbdaaW.PrintWords Go.Proofs.YtcjngbpmdmfbdaaW.PrintLast Go.Proofs.YtcjngbpmdmfbdaaW.PrintMore
set_option linter.unusedVariables false
set_option linter.unusedSimpArgs false

/-! Words for the pure side: whole numbers that do not wrap, reads of lists. -/
theorem wr {x : Int} (h : -9223372036854775808 ≤ x) (h' : x < 9223372036854775808) : wrap64 x = x := by unfold wrap64; omega
theorem rd_nat (xs : List Int) (n : Nat) : rd xs (n : Int) = xs.getD n 0 := rfl
theorem rd_at {xs : List Int} {i : Int} {n : Nat} (h : i = (n : Int)) : rd xs i = xs.getD n 0 := by subst h; rfl
theorem drop_getD {xs : List Int} {i : Nat} (h : i < xs.length) : xs.drop i = xs.getD i 0 :: xs.drop (i + 1) := by
  rw [List.drop_eq_getElem_cons h]; simp [List.getD_eq_getElem?_getD, h]
theorem take_getD {xs : List Int} {i : Nat} (h : i < xs.length) : xs.take (i + 1) = xs.take i ++ [xs.getD i 0] := by
  rw [List.take_succ_eq_append_getElem h]; simp [List.getD_eq_getElem?_getD, h]

theorem lz_bind {α β : Type} {a a' : Option α} {f : α → Option β} (h : a = a') : a.bind f = a'.bind f := by rw [h]
theorem lz_ite {α : Type} {c c' : Prop} [s : Decidable c] [s' : Decidable c'] {t e : α} (h : c = c') : ite c t e = ite c' t e := by
  subst h; rw [Subsingleton.elim s s']
attribute [local congr] lz_bind lz_ite
theorem bs {α β : Type} (a : α) (f : α → Option β) : (some a).bind f = f a := by simp
theorem itt {α : Type} (t e : α) : (if (true = true) then t else e) = t := by simp
theorem ift {α : Type} (t e : α) : (if (false = true) then t else e) = e := by simp
theorem ifT {α : Type} (t e : α) : (if True then t else e) = t := by simp
theorem ifF {α : Type} (t e : α) : (if False then t else e) = e := by simp

theorem u8_wf {x : Int} (h : (Lit.int .u8 x).wf = true) : 0 ≤ x ∧ x < 256 := by
  have h' := h
  simp only [Lit.wf, Bool.and_eq_true, decide_eq_true_eq] at h'
  have e1 : IntKind.u8.min = 0 := by rfl
  have e2 : IntKind.u8.max = 255 := by rfl
  rw [e1, e2] at h'
  omega
theorem i64_wf {x : Int} (h : (Lit.int .i64 x).wf = true) : -9223372036854775808 ≤ x ∧ x < 9223372036854775808 := by
  have h' := h
  simp only [Lit.wf, Bool.and_eq_true, decide_eq_true_eq] at h'
  have e1 : IntKind.i64.min = -9223372036854775808 := by decide
  have e2 : IntKind.i64.max = 9223372036854775807 := by decide
  rw [e1, e2] at h'
  omega
theorem tmod_nat (x n : Nat) : Int.tmod (x : Int) (n : Int) = ((x % n : Nat) : Int) := by
  rw [Int.tmod_eq_emod_of_nonneg (by omega)]; exact (Int.natCast_emod _ _).symm
/-- A number within a list's places and its end. -/
theorem place (x : Int) (n : Nat) (h : 0 ≤ x ∧ x < 256) (hn : n ≤ 1000000) : ∃ p : Nat, p ≤ n ∧ Int.tmod (wrap64 x) (wrap64 ((n : Int) + 1)) = p := by
  obtain ⟨y, rfl⟩ := Int.eq_ofNat_of_zero_le h.1
  rw [wr (by omega) (by omega), wr (by omega) (by omega)]
  refine ⟨y % (n + 1), by have := Nat.mod_lt y (show 0 < n + 1 by omega); omega, ?_⟩
  have := tmod_nat y (n + 1)
  simpa using this

/-! The longest common subsequence of two lists of whole numbers: no program in sight. -/

def lcs : List Int → List Int → Nat
  | [], _ => 0
  | _ :: _, [] => 0
  | a :: xt, b :: yt => if a = b then lcs xt yt + 1 else max (lcs xt (b :: yt)) (lcs (a :: xt) yt)
termination_by xs ys => xs.length + ys.length

@[simp] theorem lcs_nil_left (ys : List Int) : lcs [] ys = 0 := by cases ys <;> simp [lcs]
@[simp] theorem lcs_nil_right (xs : List Int) : lcs xs [] = 0 := by cases xs <;> simp [lcs]
theorem lcs_cons (a b : Int) (xt yt : List Int) : lcs (a :: xt) (b :: yt) = if a = b then lcs xt yt + 1 else max (lcs xt (b :: yt)) (lcs (a :: xt) yt) := by
  rw [lcs]

theorem lcs_ub (xs ys : List Int) : ∀ s : List Int, s.Sublist xs → s.Sublist ys → s.length ≤ lcs xs ys := by
  induction xs, ys using lcs.induct with
  | case1 ys => intro s h _; simp at h; subst h; simp
  | case2 a xt => intro s _ h; simp at h; subst h; simp
  | case3 xt b yt ih =>
    intro s h1 h2
    rw [lcs_cons, if_pos rfl]
    cases s with
    | nil => simp
    | cons c s =>
      have h1' : s.Sublist xt := by
        cases h1 with
        | cons _ h => exact (List.sublist_cons_self c s).trans h
        | cons_cons _ h => exact h
      have h2' : s.Sublist yt := by
        cases h2 with
        | cons _ h => exact (List.sublist_cons_self c s).trans h
        | cons_cons _ h => exact h
      have := ih s h1' h2'
      simp; omega
  | case4 a xt b yt hne ih1 ih2 =>
    intro s h1 h2
    rw [lcs_cons, if_neg hne]
    cases s with
    | nil => simp
    | cons c s =>
      by_cases hc : c = a
      · subst hc
        have h2' : (c :: s).Sublist yt := by
          cases h2 with
          | cons _ h => exact h
          | cons_cons _ h => exact absurd rfl hne
        have := ih2 _ h1 h2'
        omega
      · have h1' : (c :: s).Sublist xt := by
          cases h1 with
          | cons _ h => exact h
          | cons_cons _ h => exact absurd rfl hc
        have := ih1 _ h1' h2
        omega

theorem lcs_ex (xs ys : List Int) : ∃ s : List Int, s.Sublist xs ∧ s.Sublist ys ∧ s.length = lcs xs ys := by
  induction xs, ys using lcs.induct with
  | case1 ys => exact ⟨[], by simp⟩
  | case2 a xt => exact ⟨[], by simp⟩
  | case3 xt b yt ih =>
    obtain ⟨s, h1, h2, h3⟩ := ih
    exact ⟨b :: s, h1.cons_cons b, h2.cons_cons b, by rw [lcs_cons, if_pos rfl]; simp [h3]⟩
  | case4 a xt b yt hne ih1 ih2 =>
    rw [lcs_cons, if_neg hne]
    by_cases h : lcs (a :: xt) yt ≤ lcs xt (b :: yt)
    · obtain ⟨s, h1, h2, h3⟩ := ih1
      exact ⟨s, h1.cons a, h2, by omega⟩
    · obtain ⟨s, h1, h2, h3⟩ := ih2
      exact ⟨s, h1, h2.cons b, by omega⟩

theorem lcs_unique {xs ys : List Int} {n : Nat} (h : ∃ s : List Int, s.Sublist xs ∧ s.Sublist ys ∧ s.length = n) (h' : ∀ s : List Int, s.Sublist xs → s.Sublist ys → s.length ≤ n) : lcs xs ys = n := by
  obtain ⟨s, h1, h2, h3⟩ := h
  obtain ⟨t, h4, h5, h6⟩ := lcs_ex xs ys
  have := lcs_ub xs ys s h1 h2
  have := h' t h4 h5
  omega

theorem lcs_comm (xs ys : List Int) : lcs xs ys = lcs ys xs := by
  obtain ⟨s, h1, h2, h3⟩ := lcs_ex ys xs
  exact lcs_unique ⟨s, h2, h1, h3⟩ fun t a b => lcs_ub ys xs t b a

theorem lcs_reverse (xs ys : List Int) : lcs xs.reverse ys.reverse = lcs xs ys := by
  obtain ⟨s, h1, h2, h3⟩ := lcs_ex xs ys
  refine lcs_unique ⟨s.reverse, h1.reverse, h2.reverse, by simp [h3]⟩ fun t a b => ?_
  have := lcs_ub xs ys t.reverse (by simpa using a.reverse) (by simpa using b.reverse)
  simpa using this

theorem lcs_mono {xs xs' ys ys' : List Int} (h : xs.Sublist xs') (h' : ys.Sublist ys') : lcs xs ys ≤ lcs xs' ys' := by
  obtain ⟨s, h1, h2, h3⟩ := lcs_ex xs ys
  have := lcs_ub xs' ys' s (h1.trans h) (h2.trans h')
  omega

theorem lcs_le_left (xs ys : List Int) : lcs xs ys ≤ xs.length := by
  obtain ⟨s, h1, _, h3⟩ := lcs_ex xs ys
  have := h1.length_le
  omega
theorem lcs_le_right (xs ys : List Int) : lcs xs ys ≤ ys.length := by rw [lcs_comm]; exact lcs_le_left _ _

theorem lcs_self (xs : List Int) : lcs xs xs = xs.length := by
  have := lcs_ub xs xs xs (List.Sublist.refl _) (List.Sublist.refl _)
  have := lcs_le_left xs xs
  omega

theorem lcs_cons_same (a : Int) (xs ys : List Int) : lcs (a :: xs) (a :: ys) = lcs xs ys + 1 := by rw [lcs_cons, if_pos rfl]

theorem lcs_cons_le (a : Int) (xs ys : List Int) : lcs (a :: xs) ys ≤ lcs xs ys + 1 := by
  obtain ⟨s, h1, h2, h3⟩ := lcs_ex (a :: xs) ys
  cases s with
  | nil => simp at h3; omega
  | cons c s =>
    have h1' : s.Sublist xs := by
      cases h1 with
      | cons _ h => exact (List.sublist_cons_self c s).trans h
      | cons_cons _ h => exact h
    have := lcs_ub xs ys s h1' ((List.sublist_cons_self c s).trans h2)
    simp at h3; omega
theorem lcs_cons_le_right (b : Int) (xs ys : List Int) : lcs xs (b :: ys) ≤ lcs xs ys + 1 := by
  rw [lcs_comm, lcs_comm xs ys]; exact lcs_cons_le b ys xs

theorem lcs_snoc_same (a : Int) (xs ys : List Int) : lcs (xs ++ [a]) (ys ++ [a]) = lcs xs ys + 1 := by
  rw [← lcs_reverse, ← lcs_reverse xs ys]; simp [lcs_cons_same]
theorem lcs_snoc (a b : Int) (xs ys : List Int) : lcs (xs ++ [a]) (ys ++ [b]) = if a = b then lcs xs ys + 1 else max (lcs xs (ys ++ [b])) (lcs (xs ++ [a]) ys) := by
  rw [← lcs_reverse, ← lcs_reverse xs ys, ← lcs_reverse xs (ys ++ [b]), ← lcs_reverse (xs ++ [a]) ys]
  simp [lcs_cons]
theorem lcs_snoc_le (a : Int) (xs ys : List Int) : lcs (xs ++ [a]) ys ≤ lcs xs ys + 1 := by
  rw [← lcs_reverse, ← lcs_reverse xs ys]; simp only [List.reverse_append, List.reverse_cons, List.reverse_nil, List.nil_append, List.singleton_append]; exact lcs_cons_le _ _ _

/-- Cut both lists anywhere: never more together. -/
theorem lcs_append_ge (xs xs' ys ys' : List Int) : lcs xs ys + lcs xs' ys' ≤ lcs (xs ++ xs') (ys ++ ys') := by
  obtain ⟨s, h1, h2, h3⟩ := lcs_ex xs ys
  obtain ⟨t, h4, h5, h6⟩ := lcs_ex xs' ys'
  have := lcs_ub (xs ++ xs') (ys ++ ys') (s ++ t) (h1.append h4) (h2.append h5)
  simp at this; omega

theorem sublist_append_split {s xs ys : List Int} (h : s.Sublist (xs ++ ys)) : ∃ s1 s2, s = s1 ++ s2 ∧ s1.Sublist xs ∧ s2.Sublist ys := by
  obtain ⟨l1, l2, rfl, h1, h2⟩ := List.sublist_append_iff.1 h
  exact ⟨l1, l2, rfl, h1, h2⟩

/-- Cut the first list: somewhere in the second one both together are just xt much. -/
theorem lcs_cut (xs xs' ys : List Int) : ∃ j, j ≤ ys.length ∧ lcs (xs ++ xs') ys = lcs xs (ys.take j) + lcs xs' (ys.drop j) := by
  obtain ⟨s, h1, h2, h3⟩ := lcs_ex (xs ++ xs') ys
  obtain ⟨s1, s2, rfl, h4, h5⟩ := sublist_append_split h1
  obtain ⟨l1, l2, rfl, h6, h7⟩ := List.append_sublist_iff.1 h2
  refine ⟨l1.length, by simp, ?_⟩
  have a1 := lcs_ub xs l1 s1 h4 h6
  have a2 := lcs_ub xs' l2 s2 h5 h7
  have a3 := lcs_append_ge xs xs' l1 l2
  simp only [List.take_left, List.drop_left]
  simp at h3; omega

/-- The same ahead of both: xt much more. -/
theorem lcs_prefix (p xs ys : List Int) : lcs (p ++ xs) (p ++ ys) = p.length + lcs xs ys := by
  induction p with
  | nil => simp
  | cons a p ih => simp only [List.cons_append, lcs_cons_same, ih, List.length_cons]; omega
theorem lcs_suffix (p xs ys : List Int) : lcs (xs ++ p) (ys ++ p) = p.length + lcs xs ys := by
  rw [← lcs_reverse, ← lcs_reverse xs ys]; simp [lcs_prefix]

/-- The distance. -/
def dist (xs ys : List Int) : Nat := xs.length + ys.length - 2 * lcs xs ys
theorem dist_add (xs ys : List Int) : dist xs ys + 2 * lcs xs ys = xs.length + ys.length := by
  have := lcs_le_left xs ys
  have := lcs_le_right xs ys
  unfold dist; omega
theorem dist_comm (xs ys : List Int) : dist xs ys = dist ys xs := by
  have := dist_add xs ys
  have := dist_add ys xs
  have := lcs_comm xs ys
  omega
theorem lcs_full {xs ys : List Int} (h : lcs xs ys = xs.length) (h' : lcs xs ys = ys.length) : xs = ys := by
  obtain ⟨s, h1, h2, h3⟩ := lcs_ex xs ys
  have e1 := h1.eq_of_length (by omega)
  have e2 := h2.eq_of_length (by omega)
  rw [← e1, ← e2]
theorem dist_zero_iff (xs ys : List Int) : dist xs ys = 0 ↔ xs = ys := by
  constructor
  · intro h
    have := dist_add xs ys
    have := lcs_le_left xs ys
    have := lcs_le_right xs ys
    exact lcs_full (by omega) (by omega)
  · rintro rfl
    have := dist_add xs xs
    have := lcs_self xs
    omega

/-- Two parts of one list have at least so much in common. -/
theorem sublist_both : ∀ (z s t : List Int), s.Sublist z → t.Sublist z → ∃ u : List Int, u.Sublist s ∧ u.Sublist t ∧ s.length + t.length ≤ z.length + u.length := by
  intro z
  induction z with
  | nil => intro s t h1 h2; simp at h1 h2; subst h1; subst h2; exact ⟨[], by simp⟩
  | cons c z ih =>
    intro s t h1 h2
    cases h1 with
    | cons _ h1 =>
      cases h2 with
      | cons _ h2 => obtain ⟨u, a, b, l⟩ := ih s t h1 h2; exact ⟨u, a, b, by simp; omega⟩
      | cons_cons _ h2 => rename_i t; obtain ⟨u, a, b, l⟩ := ih s t h1 h2; exact ⟨u, a, b.cons _, by simp; omega⟩
    | cons_cons _ h1 =>
      rename_i s
      cases h2 with
      | cons _ h2 => obtain ⟨u, a, b, l⟩ := ih s t h1 h2; exact ⟨u, a.cons _, b, by simp; omega⟩
      | cons_cons _ h2 => rename_i t; obtain ⟨u, a, b, l⟩ := ih s t h1 h2; exact ⟨c :: u, a.cons_cons _, b.cons_cons _, by simp; omega⟩
theorem dist_triangle (xs zs ys : List Int) : dist xs ys ≤ dist xs zs + dist zs ys := by
  obtain ⟨s, h1, h2, h3⟩ := lcs_ex xs zs
  obtain ⟨t, h4, h5, h6⟩ := lcs_ex zs ys
  obtain ⟨u, a, b, l⟩ := sublist_both zs s t h2 h4
  have := lcs_ub xs ys u (a.trans h1) (b.trans h5)
  have := dist_add xs ys
  have := dist_add xs zs
  have := dist_add zs ys
  omega


/-! Lists told place by place. -/
def seq {α : Type} (n : Nat) (F : Nat → α) : List α := (List.range n).map F
def upd {α : Type} (F : Nat → α) (i : Nat) (v : α) : Nat → α := fun j => if j = i then v else F j
theorem upd_same {α : Type} (F : Nat → α) (i : Nat) (v : α) : upd F i v i = v := by simp [upd]
theorem upd_ne {α : Type} (F : Nat → α) {i j : Nat} (v : α) (h : j ≠ i) : upd F i v j = F j := by simp [upd, h]
theorem seq_length {α : Type} (n : Nat) (F : Nat → α) : (seq n F).length = n := by simp [seq]
theorem seq_getD {α : Type} {n : Nat} (F : Nat → α) {i : Nat} (h : i < n) (d : α) : (seq n F).getD i d = F i := by simp [seq, h, List.getD_eq_getElem?_getD]
theorem seq_getElem {α : Type} {n : Nat} (F : Nat → α) {i : Nat} (h : i < (seq n F).length) : (seq n F)[i] = F i := by simp [seq]
theorem seq_ext {α : Type} {n : Nat} {F G : Nat → α} (h : ∀ i, i < n → F i = G i) : seq n F = seq n G := by
  unfold seq; exact List.map_congr_left fun i hi => h i (List.mem_range.1 hi)
theorem seq_set {α : Type} {n : Nat} (F : Nat → α) (i : Nat) (v : α) : (seq n F).set i v = seq n (upd F i v) := by
  apply List.ext_getElem
  · simp [seq_length]
  · intro j h1 h2
    rw [List.getElem_set, seq_getElem, seq_getElem]
    unfold upd
    by_cases h : i = j
    · rw [if_pos h, if_pos h.symm]
    · rw [if_neg h, if_neg (fun e => h e.symm)]
theorem seq_const {α : Type} (n : Nat) (v : α) : List.replicate n v = seq n (fun _ => v) := by
  apply List.ext_getElem
  · simp [seq_length]
  · intro j h1 h2; simp [seq]
theorem seq_snoc {α : Type} (n : Nat) (F : Nat → α) : seq (n + 1) F = seq n F ++ [F n] := by simp [seq, List.range_succ]
theorem seq_of {α : Type} (xs : List α) (d : α) : xs = seq xs.length (fun i => xs.getD i d) := by
  apply List.ext_getElem
  · simp [seq_length]
  · intro j h1 h2; rw [seq_getElem]; simp [List.getD_eq_getElem?_getD, h1]
theorem seq_inj {α : Type} {n : Nat} {F G : Nat → α} (h : seq n F = seq n G) : ∀ i, i < n → F i = G i := by
  intro i hi
  have := congrArg (fun l => l[i]?) h
  simpa [seq, hi] using this
theorem rd_seq {n : Nat} (F : Nat → Int) {i : Int} {p : Nat} (h : p < n) (e : i = (p : Int)) : rd (seq n F) i = F p := by
  subst e; rw [rd_nat, seq_getD F h]

/-! Sums of the first so many numbers. -/
def sumN : Nat → (Nat → Nat) → Nat
  | 0, _ => 0
  | n + 1, f => sumN n f + f n
theorem sumN_congr {n : Nat} {f g : Nat → Nat} (h : ∀ i, i < n → f i = g i) : sumN n f = sumN n g := by
  induction n with
  | zero => rfl
  | succ n ih => simp only [sumN]; rw [ih (fun i hi => h i (by omega)), h n (by omega)]
theorem sumN_add (n : Nat) (f g : Nat → Nat) : sumN n (fun i => f i + g i) = sumN n f + sumN n g := by
  induction n with
  | zero => rfl
  | succ n ih => simp only [sumN]; omega
theorem sumN_zero (n : Nat) : sumN n (fun _ => 0) = 0 := by
  induction n with
  | zero => rfl
  | succ n ih => simp only [sumN]; omega
theorem sumN_le {n : Nat} {f g : Nat → Nat} (h : ∀ i, i < n → f i ≤ g i) : sumN n f ≤ sumN n g := by
  induction n with
  | zero => exact Nat.le_refl _
  | succ n ih => simp only [sumN]; have := ih (fun i hi => h i (by omega)); have := h n (by omega); omega
theorem sumN_const (n c : Nat) : sumN n (fun _ => c) = n * c := by
  induction n with
  | zero => simp [sumN]
  | succ n ih => simp only [sumN]; rw [ih, Nat.succ_mul]
theorem sumN_comm (n m : Nat) (f : Nat → Nat → Nat) : sumN n (fun i => sumN m fun j => f i j) = sumN m (fun j => sumN n fun i => f i j) := by
  induction n with
  | zero => simp only [sumN]; rw [sumN_zero]
  | succ n ih => simp only [sumN]; rw [ih, sumN_add]
theorem sumN_interval (n : Nat) (a b : Int) : ((sumN n (fun i => if a ≤ (i : Int) ∧ (i : Int) ≤ b then 1 else 0) : Nat) : Int) = max 0 (min ((n : Int) - 1) b - max 0 a + 1) := by
  induction n with
  | zero => simp only [sumN]; omega
  | succ n ih =>
    simp only [sumN]
    by_cases h : a ≤ (n : Int) ∧ (n : Int) ≤ b
    · rw [if_pos h]; omega
    · rw [if_neg h]; omega
/-- The points of the grid on diagonal d. -/
def onDiag (n m : Nat) (d : Int) : Nat := sumN (n + 1) fun i => sumN (m + 1) fun j => if (i : Int) - (j : Int) = d then 1 else 0
theorem onDiag_eq (n m : Nat) (d : Int) (h1 : -(m : Int) ≤ d) (h2 : d ≤ n) : ((onDiag n m d : Nat) : Int) = min (m : Int) (n - d) - max 0 (-d) + 1 := by
  unfold onDiag
  have e : (sumN (n + 1) fun i => sumN (m + 1) fun j => if (i : Int) - (j : Int) = d then 1 else 0) = sumN (n + 1) fun i => if d ≤ (i : Int) ∧ (i : Int) ≤ m + d then 1 else 0 := by
    refine sumN_congr fun i hi => ?_
    have h3 := sumN_interval (m + 1) ((i : Int) - d) ((i : Int) - d)
    have h4 : (sumN (m + 1) fun j => if (i : Int) - (j : Int) = d then 1 else 0) = sumN (m + 1) (fun j => if (i : Int) - d ≤ (j : Int) ∧ (j : Int) ≤ (i : Int) - d then 1 else 0) := by
      refine sumN_congr fun j hj => ?_
      by_cases h : (i : Int) - (j : Int) = d
      · rw [if_pos h, if_pos (by omega)]
      · rw [if_neg h, if_neg (by omega)]
    rw [h4]
    split <;> omega
  rw [e]
  have := sumN_interval (n + 1) d (m + d)
  omega
def band (n m : Nat) (lo hi : Int) : Nat := sumN (n + 1) fun i => sumN (m + 1) fun j => if lo ≤ (i : Int) - (j : Int) ∧ (i : Int) - (j : Int) ≤ hi then 1 else 0
theorem band_empty (n m : Nat) (lo hi : Int) (h : hi < lo) : band n m lo hi = 0 := by
  unfold band
  rw [sumN_congr (g := fun _ => 0) (fun i _ => ?_), sumN_zero]
  rw [sumN_congr (g := fun _ => 0) (fun j _ => ?_), sumN_zero]
  rw [if_neg (by omega)]
theorem band_step (n m : Nat) (lo hi : Int) (h : lo ≤ hi + 1) : band n m lo (hi + 1) = band n m lo hi + onDiag n m (hi + 1) := by
  unfold band onDiag
  rw [← sumN_add]
  refine sumN_congr fun i _ => ?_
  rw [← sumN_add]
  refine sumN_congr fun j _ => ?_
  by_cases h1 : lo ≤ (i : Int) - (j : Int) ∧ (i : Int) - (j : Int) ≤ hi
  · rw [if_pos h1, if_pos (by omega), if_neg (by omega)]
  · rw [if_neg h1]
    by_cases h2 : (i : Int) - (j : Int) = hi + 1
    · rw [if_pos (by omega), if_pos h2]
    · rw [if_neg (by omega), if_neg h2]
theorem band_le (n m : Nat) (lo hi : Int) : band n m lo hi ≤ (n + 1) * (m + 1) := by
  have : band n m lo hi ≤ sumN (n + 1) fun _ => sumN (m + 1) fun _ => 1 := by
    unfold band
    refine sumN_le fun i _ => sumN_le fun j _ => ?_
    split <;> omega
  rw [sumN_const, sumN_const] at this
  simpa using this
def apart (x y : Int) : Int := if x > y then x - y else y - x
/-- The points that are not too far from the middle. -/
def cells (n m : Nat) (k : Int) : Nat := sumN (n + 1) fun i => sumN (m + 1) fun j => if apart i j + apart ((n : Int) - i) ((m : Int) - j) ≤ k then 1 else 0
def bandLo (n m : Nat) (k : Int) : Int := max (-(m : Int)) (min 0 ((n : Int) - m) - min ((k - max ((n : Int) - m) ((m : Int) - n)) / 2) m)
def bandHi (n m : Nat) (k : Int) : Int := min (n : Int) (max 0 ((n : Int) - m) + min ((k - max ((n : Int) - m) ((m : Int) - n)) / 2) n)
theorem cells_none (n m : Nat) (k : Int) (h : k < max ((n : Int) - m) ((m : Int) - n)) : cells n m k = 0 := by
  unfold cells
  rw [sumN_congr (g := fun _ => 0) (fun i _ => ?_), sumN_zero]
  rw [sumN_congr (g := fun _ => 0) (fun j _ => ?_), sumN_zero]
  rw [if_neg]
  unfold apart
  split <;> split <;> omega
theorem cells_band (n m : Nat) (k : Int) (h : max ((n : Int) - m) ((m : Int) - n) ≤ k) : cells n m k = band n m (bandLo n m k) (bandHi n m k) := by
  unfold cells band bandLo bandHi
  refine sumN_congr fun i hi => sumN_congr fun j hj => ?_
  have e : (apart i j + apart ((n : Int) - i) ((m : Int) - j) ≤ k) ↔ (max (-(m : Int)) (min 0 ((n : Int) - m) - min ((k - max ((n : Int) - m) ((m : Int) - n)) / 2) m) ≤ (i : Int) - j ∧ (i : Int) - j ≤ min (n : Int) (max 0 ((n : Int) - m) + min ((k - max ((n : Int) - m) ((m : Int) - n)) / 2) n)) := by
    unfold apart
    split <;> split <;> omega
  by_cases c : apart i j + apart ((n : Int) - i) ((m : Int) - j) ≤ k
  · rw [if_pos c, if_pos (e.1 c)]
  · rw [if_neg c, if_neg (fun h => c (e.2 h))]

theorem mx_max (a b : Int) : mx a b = max a b := by unfold mx; omega
theorem mn_min (a b : Int) : mn a b = min a b := by unfold mn; omega
theorem band_is_eq (a : Int) : band_is.f a = some (decide (0 ≤ a ∧ a ≤ 1048576)) := by
  unfold band_is.f
  by_cases h1 : 0 ≤ a <;> by_cases h2 : a ≤ 1048576 <;> simp [h1, h2]
theorem band_edges_none (n m : Nat) (k : Int) (hn : n ≤ 1048576) (hm : m ≤ 1048576) (h : k < max ((n : Int) - m) ((m : Int) - n)) : band_edges.f n m k = some (0, 0, false) := by
  unfold band_edges.f
  simp (disch := omega) only [wr, mx_max]
  rw [if_pos (by omega)]
theorem band_edges_some (n m : Nat) (k : Int) (hn : n ≤ 1048576) (hm : m ≤ 1048576) (hk : k < 9223372036854775808) (h : max ((n : Int) - m) ((m : Int) - n) ≤ k) : band_edges.f n m k = some (bandLo n m k, bandHi n m k, true) := by
  unfold band_edges.f bandLo bandHi
  have e1 : -((n : Int) - m) = (m : Int) - n := by omega
  have e2 : ∀ x : Int, 0 ≤ x → Int.tdiv x 2 = x / 2 := fun x hx => Int.tdiv_eq_ediv_of_nonneg hx
  rw [wr (x := (n : Int) - m) (by omega) (by omega), wr (x := -((n : Int) - m)) (by omega) (by omega), e1]
  simp only [mx_max, mn_min]
  rw [if_neg (by omega), wr (x := k - max ((n : Int) - m) ((m : Int) - n)) (by omega) (by omega), e2 _ (by omega), wr (x := (k - max ((n : Int) - m) ((m : Int) - n)) / 2) (by omega) (by omega)]
  rw [wr (x := -(m : Int)) (by omega) (by omega), wr (by omega) (by omega), wr (by omega) (by omega)]
theorem band_Cells_l0 (n m : Nat) (hn : n ≤ 100000) (hm : m ≤ 100000) (lo hi : Int) (h1 : -(m : Int) ≤ lo) (h2 : hi ≤ n) : ∀ (e : Nat) (d : Int), lo ≤ d → d + e = max (hi + 1) lo → ∀ k, e < k →
    band_Cells.l0 k n m hi (band n m lo (d - 1)) d = some ((band n m lo hi : Nat) : Int) := by
  have hb : ∀ x, ((band n m lo x : Nat) : Int) ≤ 100001 * 100001 := fun x => by
    have h := band_le n m lo x
    have h' : (n + 1) * (m + 1) ≤ 100001 * 100001 := Nat.mul_le_mul (by omega) (by omega)
    omega
  intro e
  induction e with
  | zero =>
    intro d hd he k hk
    obtain ⟨k, rfl⟩ : ∃ q, k = q + 1 := ⟨k - 1, by omega⟩
    rw [band_Cells.l0, if_neg (by omega)]
    by_cases c : hi + 1 ≤ lo
    · rw [band_empty n m lo (d - 1) (by omega), band_empty n m lo hi (by omega)]
    · rw [show d - 1 = hi by omega]
  | succ e ih =>
    intro d hd he k hk
    obtain ⟨k, rfl⟩ : ∃ q, k = q + 1 := ⟨k - 1, by omega⟩
    rw [band_Cells.l0, if_pos (by omega)]
    have hs := band_step n m lo (d - 1) (by omega)
    rw [show d - 1 + 1 = d by omega] at hs
    have ho := onDiag_eq n m d (by omega) (by omega)
    have hbd := hb (d - 1)
    have h4 := ih (d + 1) (by omega) (by omega) k (by omega)
    rw [show d + 1 - 1 = d by omega, hs] at h4
    simp only [mx_max, mn_min]
    rw [wr (x := (n : Int) - d) (by omega) (by omega), wr (x := -d) (by omega) (by omega), wr (x := min (m : Int) ((n : Int) - d) - max 0 (-d)) (by omega) (by omega), wr (x := min (m : Int) ((n : Int) - d) - max 0 (-d) + 1) (by omega) (by omega), wr (x := d + 1) (by omega) (by omega), wr (by omega) (by omega), ← ho]
    exact_mod_cast h4
theorem band_edges_in (n m : Nat) (k : Int) (h : max ((n : Int) - m) ((m : Int) - n) ≤ k) : -(m : Int) ≤ bandLo n m k ∧ bandHi n m k ≤ n ∧ bandLo n m k ≤ bandHi n m k ∧ bandHi n m k - bandLo n m k ≤ k := by
  unfold bandLo bandHi; omega
theorem band_Cells_out (n m k : Int) (h : ¬ (0 ≤ n ∧ n ≤ 1048576 ∧ 0 ≤ m ∧ m ≤ 1048576 ∧ 0 ≤ k)) (K : Nat) (hK : 0 < K) : band_Cells.f K n m k = some 0 := by
  obtain ⟨K, rfl⟩ : ∃ q, K = q + 1 := ⟨K - 1, by omega⟩
  unfold band_Cells.f
  rw [band_is_eq, bs]
  by_cases h1 : 0 ≤ n ∧ n ≤ 1048576
  · rw [decide_eq_true h1, itt, band_is_eq, bs]
    by_cases h2 : 0 ≤ m ∧ m ≤ 1048576
    · rw [decide_eq_true h2, itt, decide_eq_true (by omega), band_Cells.j0, itt]
    · rw [decide_eq_false h2, ift, band_Cells.j0, itt]
  · rw [decide_eq_false h1, ift, band_Cells.j0, itt]
theorem band_Cells_eq (n m : Nat) (k : Int) (hn : n ≤ 100000) (hm : m ≤ 100000) (h0 : 0 ≤ k) (hk : k < 9223372036854775808) (K : Nat) (hK : n + m + 3 < K) : band_Cells.f K n m k = some ((cells n m k : Nat) : Int) := by
  obtain ⟨K, rfl⟩ : ∃ q, K = q + 1 := ⟨K - 1, by omega⟩
  unfold band_Cells.f
  rw [band_is_eq, bs, decide_eq_true (by omega), itt, band_is_eq, bs, decide_eq_true (by omega), itt, decide_eq_false (by omega), band_Cells.j0, ift]
  by_cases h : max ((n : Int) - m) ((m : Int) - n) ≤ k
  · obtain ⟨e1, e2, e3, e4⟩ := band_edges_in n m k h
    rw [band_edges_some n m k (by omega) (by omega) hk h, bs, itt, cells_band n m k h]
    have := band_Cells_l0 n m hn hm (bandLo n m k) (bandHi n m k) e1 e2 (bandHi n m k + 1 - bandLo n m k).toNat (bandLo n m k) (by omega) (by omega) K (by omega)
    rw [band_empty n m _ (bandLo n m k - 1) (by omega)] at this
    exact this
  · rw [band_edges_none n m k (by omega) (by omega) (by omega), bs, ift, cells_none n m k (by omega)]; rfl

/-- What both lists have in common ahead of two places. -/
def H (a b : List Int) (i j : Nat) : Nat := lcs (a.take i) (b.take j)
theorem H_zero_left (a b : List Int) (j : Nat) : H a b 0 j = 0 := by unfold H; simp
theorem H_zero_right (a b : List Int) (i : Nat) : H a b i 0 = 0 := by unfold H; simp
theorem H_step {a b : List Int} {i j : Nat} (h : i < a.length) (h' : j < b.length) : H a b (i + 1) (j + 1) = if a.getD i 0 = b.getD j 0 then H a b i j + 1 else max (H a b i (j + 1)) (H a b (i + 1) j) := by
  unfold H; rw [take_getD h, take_getD h', lcs_snoc]
theorem H_le_left (a b : List Int) (i j : Nat) : H a b i j ≤ a.length := by have := lcs_le_left (a.take i) (b.take j); unfold H; simp at this; omega
theorem H_le_i (a b : List Int) (i j : Nat) : H a b i j ≤ i := by have := lcs_le_left (a.take i) (b.take j); unfold H; simp at this; omega
theorem H_le_j (a b : List Int) (i j : Nat) : H a b i j ≤ j := by have := lcs_le_right (a.take i) (b.take j); unfold H; simp at this; omega
theorem H_down (a b : List Int) (i j : Nat) : H a b i j ≤ H a b (i + 1) j := by
  unfold H
  exact lcs_mono (by rw [show a.take i = (a.take (i + 1)).take i by rw [List.take_take]; congr 1; omega]; exact List.take_sublist _ _) (List.Sublist.refl _)
theorem H_right (a b : List Int) (i j : Nat) : H a b i j ≤ H a b i (j + 1) := by
  unfold H
  exact lcs_mono (List.Sublist.refl _) (by rw [show b.take j = (b.take (j + 1)).take j by rw [List.take_take]; congr 1; omega]; exact List.take_sublist _ _)
theorem H_all (a b : List Int) : H a b a.length b.length = lcs a b := by unfold H; simp
def ahead (a b : List Int) : List (List Int) := seq (a.length + 1) fun i => seq (b.length + 1) fun j => (H a b i j : Int)

/-- How far both beginnings are from each other. -/
def D (a b : List Int) (i j : Nat) : Int := (i : Int) + j - 2 * H a b i j
theorem D_ge (a b : List Int) (i j : Nat) : (i : Int) - j ≤ D a b i j ∧ (j : Int) - i ≤ D a b i j ∧ 0 ≤ D a b i j ∧ D a b i j ≤ (i : Int) + j := by
  have := H_le_i a b i j
  have := H_le_j a b i j
  unfold D; omega
theorem D_zero_left (a b : List Int) (j : Nat) : D a b 0 j = j := by unfold D; rw [H_zero_left]; omega
theorem D_zero_right (a b : List Int) (i : Nat) : D a b i 0 = i := by unfold D; rw [H_zero_right]; omega
theorem D_down (a b : List Int) (i j : Nat) : D a b (i + 1) j ≤ D a b i j + 1 := by have := H_down a b i j; unfold D; omega
theorem D_right (a b : List Int) (i j : Nat) : D a b i (j + 1) ≤ D a b i j + 1 := by have := H_right a b i j; unfold D; omega
theorem D_same {a b : List Int} {i j : Nat} (h : i < a.length) (h' : j < b.length) (e : a.getD i 0 = b.getD j 0) : D a b (i + 1) (j + 1) = D a b i j := by
  have := H_step h h'; rw [if_pos e] at this; unfold D; omega
theorem D_other {a b : List Int} {i j : Nat} (h : i < a.length) (h' : j < b.length) (e : ¬ a.getD i 0 = b.getD j 0) : D a b (i + 1) (j + 1) = min (D a b i (j + 1)) (D a b (i + 1) j) + 1 := by
  have := H_step h h'; rw [if_neg e] at this; unfold D; omega
theorem D_all (a b : List Int) : D a b a.length b.length = dist a b := by
  have := dist_add a b; have := H_all a b; unfold D; omega
def far : Int := 1152921504606846976
def rowAt (f : Int) (l : List Int) (j : Int) : Int := if f ≤ j ∧ j < f + l.length then rd l (j - f) else far
theorem band_line_at_eq (f : Int) (l : List Int) (j : Int) (hf : 0 ≤ f ∧ f ≤ 1000000) (hl : l.length ≤ 1000000) (hj : -1 ≤ j ∧ j ≤ 1000000) : band_line_at.f f l j = some (rowAt f l j) := by
  unfold band_line_at.f rowAt
  rw [wr (x := f + (l.length : Int)) (by omega) (by omega), wr (x := j - f) (by omega) (by omega)]
  by_cases h1 : j < f
  · rw [if_pos h1, if_neg (by omega)]; rfl
  · rw [if_neg h1]
    by_cases h2 : j ≥ f + l.length
    · rw [if_pos h2, if_neg (by omega)]; rfl
    · rw [if_neg h2, if_pos (by omega), if_pos (by omega), if_pos (by omega)]
theorem rowAt_out (f : Int) (l : List Int) (j : Int) (h : ¬ (f ≤ j ∧ j < f + l.length)) : rowAt f l j = far := by unfold rowAt; rw [if_neg h]
theorem rowAt_snoc_old (f : Int) (l : List Int) (v j : Int) (h : j < f + l.length) : rowAt f (l ++ [v]) j = rowAt f l j := by
  unfold rowAt
  simp only [List.length_append, List.length_cons, List.length_nil]
  by_cases h1 : f ≤ j
  · rw [if_pos (by omega), if_pos (by omega)]
    unfold rd
    rw [List.getD_eq_getElem?_getD, List.getD_eq_getElem?_getD, List.getElem?_append_left (by omega)]
  · rw [if_neg (by omega), if_neg (by omega)]
theorem rowAt_snoc_new (f : Int) (l : List Int) (v : Int) : rowAt f (l ++ [v]) (f + l.length) = v := by
  unfold rowAt
  simp only [List.length_append, List.length_cons, List.length_nil]
  rw [if_pos (by omega), show f + (l.length : Int) - f = (l.length : Int) by omega, rd_nat]
  simp [List.getD_eq_getElem?_getD]
/-- A point through which one may come within the bound. -/
def rel (a b : List Int) (k : Int) (i j : Nat) : Prop := D a b i j + ((a.length : Int) - b.length - ((i : Int) - j)) ≤ k ∧ D a b i j - ((a.length : Int) - b.length - ((i : Int) - j)) ≤ k
/-- What a row of the band tells, up to a column. -/
structure Row (a b : List Int) (k : Int) (i c : Nat) (f : Int) (l : List Int) : Prop where
  first : f = max 0 ((i : Int) - bandHi a.length b.length k)
  len : f + l.length = c
  low : ∀ j : Nat, j ≤ b.length → D a b i j ≤ rowAt f l j
  high : ∀ j : Int, rowAt f l j ≤ far
  eq : ∀ j : Nat, j < c → j ≤ b.length → rel a b k i j → rowAt f l j = D a b i j
theorem rel_in {a b : List Int} {k : Int} {i j : Nat} (hk : max ((a.length : Int) - b.length) ((b.length : Int) - a.length) ≤ k) (hi : i ≤ a.length) (hj : j ≤ b.length) (h : rel a b k i j) :
    bandLo a.length b.length k ≤ (i : Int) - j ∧ (i : Int) - j ≤ bandHi a.length b.length k := by
  have hd := D_ge a b i j
  unfold rel at h
  unfold bandLo bandHi
  omega
/-- The value that comes next. -/
theorem row_next {a b : List Int} (ha : a.length ≤ 100000) (hb : b.length ≤ 100000) {k : Int} (hk : max ((a.length : Int) - b.length) ((b.length : Int) - a.length) ≤ k) {i c : Nat} {f : Int} {l : List Int} (hi : i ≤ a.length) (hc : c ≤ b.length)
    (hr : Row a b k i c f l) (v : Int) (h1 : D a b i c ≤ v) (h2 : v ≤ far) (h3 : rel a b k i c → v = D a b i c) : Row a b k i (c + 1) f (l ++ [v]) := by
  have hlen := hr.len
  refine ⟨hr.first, by simp; omega, fun j hj => ?_, fun j => ?_, fun j hj hj' hrel => ?_⟩
  · by_cases h : (j : Int) < c
    · rw [rowAt_snoc_old _ _ _ _ (by omega)]; exact hr.low j hj
    · by_cases e : j = c
      · subst e; rw [← hlen, rowAt_snoc_new]; exact h1
      · rw [rowAt_out _ _ _ (by simp; omega)]
        have := D_ge a b i j
        unfold far; omega
  · by_cases h : j < c
    · rw [rowAt_snoc_old _ _ _ _ (by omega)]; exact hr.high j
    · by_cases e : j = c
      · subst e; rw [← hlen, rowAt_snoc_new]; exact h2
      · rw [rowAt_out _ _ _ (by simp; omega)]; exact Int.le_refl _
  · by_cases h : j < c
    · rw [rowAt_snoc_old _ _ _ _ (by omega)]; exact hr.eq j h hj' hrel
    · obtain rfl : j = c := by omega
      rw [← hlen, rowAt_snoc_new]; exact h3 hrel
/-- The row ahead: none, or told to its end. -/
def Above (a b : List Int) (k : Int) (i : Nat) (f : Int) (l : List Int) : Prop :=
  (i = 0 ∧ f = 0 ∧ l = []) ∨ ∃ p, i = p + 1 ∧ ∃ c : Nat, (c : Int) = min (b.length : Int) ((p : Int) - bandLo a.length b.length k) + 1 ∧ Row a b k p c f l
theorem above_facts {a b : List Int} (ha : a.length ≤ 100000) (hb : b.length ≤ 100000) {k : Int} (hk : max ((a.length : Int) - b.length) ((b.length : Int) - a.length) ≤ k) {p : Nat} (hp : p < a.length) {f : Int} {l : List Int} (h : Above a b k (p + 1) f l) :
    (∀ j : Nat, j ≤ b.length → D a b p j ≤ rowAt f l j) ∧ (∀ j : Int, rowAt f l j ≤ far) ∧ (∀ j : Nat, j ≤ b.length → rel a b k p j → rowAt f l j = D a b p j) := by
  rcases h with ⟨h, _⟩ | ⟨q, hq, c, hc, hr⟩
  · omega
  · obtain rfl : q = p := by omega
    refine ⟨hr.low, hr.high, fun j hj hrel => hr.eq j ?_ hj hrel⟩
    have := rel_in hk (by omega) hj hrel
    omega
theorem above_bounds {a b : List Int} (ha : a.length ≤ 100000) (hb : b.length ≤ 100000) {k : Int} {i : Nat} (hi : i ≤ a.length) {f : Int} {l : List Int} (h : Above a b k i f l) : 0 ≤ f ∧ f ≤ 200000 ∧ l.length ≤ 200000 := by
  rcases h with ⟨_, rfl, rfl⟩ | ⟨q, hq, c, hc, hr⟩
  · simp
  · have := hr.first
    have := hr.len
    have : -(b.length : Int) ≤ bandLo a.length b.length k := by unfold bandLo; omega
    have : -(b.length : Int) ≤ bandHi a.length b.length k ∨ bandHi a.length b.length k < -(b.length : Int) := by omega
    omega
theorem band_next_l0 (a b : List Int) (ha : a.length ≤ 100000) (hb : b.length ≤ 100000) (k : Int) (hk : max ((a.length : Int) - b.length) ((b.length : Int) - a.length) ≤ k) (i : Nat) (hi : i ≤ a.length) (af : Int) (al : List Int) (hA : Above a b k i af al) :
    ∀ (d c : Nat) (f : Int) (l : List Int), (c : Int) + d = min (b.length : Int) ((i : Int) - bandLo a.length b.length k) + 1 → Row a b k i c f l →
    ∃ (l' : List Int) (c' : Nat), (c' : Int) = min (b.length : Int) ((i : Int) - bandLo a.length b.length k) + 1 ∧ Row a b k i c' f l' ∧
      Ev (fun K => band_next.l0 K a b i (min (b.length : Int) ((i : Int) - bandLo a.length b.length k)) c af al f l) (f, l') := by
  intro d
  induction d with
  | zero =>
    intro c f l hc hr
    refine ⟨l, c, by omega, hr, Ev.step (f := fun _ => some _) (fun K => ?_) (Ev.now _)⟩
    rw [band_next.l0, if_neg (by omega)]
  | succ d ih =>
    intro c f l hc hr
    have hlo : -(b.length : Int) ≤ bandLo a.length b.length k := by unfold bandLo; omega
    have hcb : c ≤ b.length := by omega
    have hlen := hr.len
    have hf := hr.first
    obtain ⟨hb1, hb2, hb3⟩ := above_bounds ha hb hi hA
    have hD := D_ge a b i c
    -- the value, whatever it is, is appended
    have go : ∀ v : Int, D a b i c ≤ v → v ≤ far → (rel a b k i c → v = D a b i c) →
        (Ev (fun K => band_next.l0 K a b i (min (b.length : Int) ((i : Int) - bandLo a.length b.length k)) ((c : Int) + 1) af al f (l ++ [v])) = Ev (fun K => band_next.l0 K a b i (min (b.length : Int) ((i : Int) - bandLo a.length b.length k)) (((c + 1 : Nat)) : Int) af al f (l ++ [v]))) ∧
        ∃ (l' : List Int) (c' : Nat), (c' : Int) = min (b.length : Int) ((i : Int) - bandLo a.length b.length k) + 1 ∧ Row a b k i c' f l' ∧
          Ev (fun K => band_next.l0 K a b i (min (b.length : Int) ((i : Int) - bandLo a.length b.length k)) (((c + 1 : Nat)) : Int) af al f (l ++ [v])) (f, l') := fun v h1 h2 h3 =>
      ⟨by simp, ih (c + 1) f (l ++ [v]) (by omega) (row_next ha hb hk hi hcb hr v h1 h2 h3)⟩
    have hl : l.length < 17592186044416 := by omega
    have fin : ∀ (v : Int) (step : Nat → Option (Int × List Int)), D a b i c ≤ v → v ≤ far → (rel a b k i c → v = D a b i c) →
        (∀ r, Ev (fun K => band_next.l0 K a b i (min (b.length : Int) ((i : Int) - bandLo a.length b.length k)) ((c : Int) + 1) af al f (l ++ [v])) r → Ev (fun K => band_next.l0 K a b i (min (b.length : Int) ((i : Int) - bandLo a.length b.length k)) c af al f l) r) →
        ∃ (l' : List Int) (c' : Nat), (c' : Int) = min (b.length : Int) ((i : Int) - bandLo a.length b.length k) + 1 ∧ Row a b k i c' f l' ∧
          Ev (fun K => band_next.l0 K a b i (min (b.length : Int) ((i : Int) - bandLo a.length b.length k)) c af al f l) (f, l') := by
      intro v _ h1 h2 h3 hs
      obtain ⟨e, l', c', h4, h5, h6⟩ := go v h1 h2 h3
      exact ⟨l', c', h4, h5, hs _ (by rw [show ((c : Int) + 1) = (((c + 1 : Nat)) : Int) by omega]; exact h6)⟩
    by_cases h00 : i = 0 ∧ c = 0
    · obtain ⟨rfl, rfl⟩ := h00
      refine fin 0 (fun _ => none) (by rw [D_zero_left]; simp) (by unfold far; omega) (fun _ => by rw [D_zero_left]; rfl) (fun r hr' => ?_)
      refine Ev.step (f := fun K => band_next.j1 K a b ((0 : Nat) : Int) (min (b.length : Int) (((0 : Nat) : Int) - bandLo a.length b.length k)) ((0 : Nat) : Int) true af al f l) (fun K => ?_) (Ev.step (fun K => ?_) hr')
      · rw [band_next.l0, if_pos (by omega), if_pos (by omega)]; rfl
      · rw [band_next.j1, itt, if_pos hl, wr (by omega) (by omega)]
    · -- not the first point of all
      have s1 : ∀ r, Ev (fun K => band_next.j1 K a b i (min (b.length : Int) ((i : Int) - bandLo a.length b.length k)) c false af al f l) r → Ev (fun K => band_next.l0 K a b i (min (b.length : Int) ((i : Int) - bandLo a.length b.length k)) c af al f l) r := by
        intro r h
        refine Ev.step (fun K => ?_) h
        rw [band_next.l0, if_pos (by omega)]
        by_cases h0 : i = 0
        · rw [if_pos (by omega), show ((c : Int) == 0) = false by rw [beq_eq_false_iff_ne]; omega]
        · rw [if_neg (by omega)]
      have other : ∀ (hs : ∀ r, Ev (fun K => band_next.j2 K a b i (min (b.length : Int) ((i : Int) - bandLo a.length b.length k)) c false af al f l) r → Ev (fun K => band_next.j1 K a b i (min (b.length : Int) ((i : Int) - bandLo a.length b.length k)) c false af al f l) r)
          (h1 : D a b i c ≤ min (min far (rowAt af al c + 1)) (rowAt f l ((c : Int) - 1) + 1)) (h3 : rel a b k i c → min (min far (rowAt af al c + 1)) (rowAt f l ((c : Int) - 1) + 1) = D a b i c)
          (hx : -1 ≤ rowAt af al c ∧ rowAt af al c ≤ far) (hy : -1 ≤ rowAt f l ((c : Int) - 1) ∧ rowAt f l ((c : Int) - 1) ≤ far),
          ∃ (l' : List Int) (c' : Nat), (c' : Int) = min (b.length : Int) ((i : Int) - bandLo a.length b.length k) + 1 ∧ Row a b k i c' f l' ∧
          Ev (fun K => band_next.l0 K a b i (min (b.length : Int) ((i : Int) - bandLo a.length b.length k)) c af al f l) (f, l') := by
        intro hs h1 h3 hx hy
        refine fin _ (fun _ => none) h1 (by unfold far at *; omega) h3 (fun r hr' => s1 r (hs r (Ev.step (fun K => ?_) hr')))
        rw [band_next.j2, ift, band_line_at_eq af al c (by omega) (by omega) (by omega), bs, wr (x := (c : Int) - 1) (by omega) (by omega), band_line_at_eq f l _ (by omega) (by omega) (by omega), bs, if_pos hl, wr (x := (c : Int) + 1) (by omega) (by omega)]
        have e : mn (mn 1152921504606846976 (wrap64 (rowAt af al c + 1))) (wrap64 (rowAt f l ((c : Int) - 1) + 1)) = min (min far (rowAt af al c + 1)) (rowAt f l ((c : Int) - 1) + 1) := by
          unfold far at *
          rw [wr (by omega) (by omega), wr (by omega) (by omega)]
          unfold mn; omega
        rw [e]
      cases i with
      | zero =>
        -- the first row
        obtain ⟨c, rfl⟩ : ∃ q, c = q + 1 := ⟨c - 1, by omega⟩
        have hx : rowAt af al ((c + 1 : Nat) : Int) = far := by
          rcases hA with ⟨_, rfl, rfl⟩ | ⟨q, hq, _⟩
          · exact rowAt_out _ _ _ (by simp only [List.length_nil]; omega)
          · omega
        have hy := hr.low c (by omega)
        have hy' := hr.high (c : Int)
        have hy'' := hr.eq c (by omega) (by omega)
        rw [D_zero_left] at hy hy''
        refine other (fun r h => Ev.step (fun K => ?_) h) ?_ ?_ ?_ ?_
        · rw [band_next.j1, ift, if_neg (by omega)]
        · rw [hx, D_zero_left, show (((c + 1 : Nat) : Int) - 1) = (c : Int) by omega]; unfold far at *; omega
        · intro hrel
          have h5 : rel a b k 0 c := by
            unfold rel at *; rw [D_zero_left] at *; omega
          rw [hx, D_zero_left, show (((c + 1 : Nat) : Int) - 1) = (c : Int) by omega, hy'' h5]; unfold far; omega
        · rw [hx]; unfold far; omega
        · rw [show (((c + 1 : Nat) : Int) - 1) = (c : Int) by omega]; omega
      | succ p =>
        obtain ⟨A1, A2, A3⟩ := above_facts ha hb hk (show p < a.length by omega) hA
        have Dp := D_ge a b p c
        have dd := D_down a b p c
        cases c with
        | zero =>
          have hy : rowAt f l (((0 : Nat) : Int) - 1) = far := rowAt_out _ _ _ (by omega)
          refine other (fun r h => Ev.step (fun K => ?_) h) ?_ ?_ ?_ ?_
          · rw [band_next.j1, ift, if_pos (by omega), if_neg (by omega)]
          · rw [hy]
            have := A1 0 (by omega)
            unfold far at *; omega
          · intro hrel
            have h5 : rel a b k p 0 := by
              unfold rel at *; rw [D_zero_right] at *; omega
            rw [hy, A3 0 (by omega) h5, D_zero_right, D_zero_right]; unfold far; omega
          · have := A1 0 (by omega)
            have := A2 ((0 : Nat) : Int)
            omega
          · rw [hy]; unfold far; omega
        | succ c =>
          have e1 : rd a ((((p + 1 : Nat) : Int)) - 1) = a.getD p 0 := rd_at (by omega)
          have e2 : rd b ((((c + 1 : Nat) : Int)) - 1) = b.getD c 0 := rd_at (by omega)
          have s2 : ∀ flag : Bool, ((a.getD p 0) == (b.getD c 0)) = flag → ∀ r, Ev (fun K => band_next.j2 K a b ((p + 1 : Nat) : Int) (min (b.length : Int) (((p + 1 : Nat) : Int) - bandLo a.length b.length k)) ((c + 1 : Nat) : Int) flag af al f l) r → Ev (fun K => band_next.j1 K a b ((p + 1 : Nat) : Int) (min (b.length : Int) (((p + 1 : Nat) : Int) - bandLo a.length b.length k)) ((c + 1 : Nat) : Int) false af al f l) r := by
            intro flag hflag r h
            refine Ev.step (fun K => ?_) h
            rw [band_next.j1, ift, if_pos (by omega), if_pos (by omega), wr (x := (((p + 1 : Nat) : Int)) - 1) (by omega) (by omega), wr (x := (((c + 1 : Nat) : Int)) - 1) (by omega) (by omega), if_pos (by omega), if_pos (by omega), if_pos (by omega), if_pos (by omega), e1, e2, hflag]
          have B1 := A1 c (by omega)
          have B2 := A2 (c : Int)
          by_cases hab : a.getD p 0 = b.getD c 0
          · have hs := D_same (a := a) (b := b) (i := p) (j := c) (by omega) (by omega) hab
            refine fin (rowAt af al c) (fun _ => none) (by omega) B2 (fun hrel => ?_) (fun r hr' => s1 r (s2 true (beq_iff_eq.2 hab) r (Ev.step (fun K => ?_) hr')))
            · rw [hs]
              refine A3 c (by omega) ?_
              unfold rel at *; rw [hs] at hrel; omega
            · rw [band_next.j2, itt, wr (x := (((c + 1 : Nat) : Int)) - 1) (by omega) (by omega), show (((c + 1 : Nat) : Int)) - 1 = (c : Int) by omega, band_line_at_eq af al c (by omega) (by omega) (by omega), bs, if_pos hl, wr (by omega) (by omega)]
          · have hs := D_other (a := a) (b := b) (i := p) (j := c) (by omega) (by omega) hab
            have hy := hr.low c (by omega)
            have hy' := hr.high (c : Int)
            have hy'' := hr.eq c (by omega) (by omega)
            have hx := A1 (c + 1) (by omega)
            have hx' := A2 ((c + 1 : Nat) : Int)
            have hx'' := A3 (c + 1) (by omega)
            have d1 := D_ge a b p (c + 1)
            have d2 := D_ge a b (p + 1) c
            refine other (s2 false (beq_eq_false_iff_ne.2 hab)) ?_ ?_ ?_ ?_
            · rw [show (((c + 1 : Nat) : Int) - 1) = (c : Int) by omega]; unfold far at *; omega
            · intro hrel
              rw [show (((c + 1 : Nat) : Int) - 1) = (c : Int) by omega]
              by_cases hle : D a b p (c + 1) ≤ D a b (p + 1) c
              · have h5 : rel a b k p (c + 1) := by unfold rel at *; omega
                have := hx'' h5
                unfold far at *; omega
              · have h5 : rel a b k (p + 1) c := by unfold rel at *; omega
                have := hy'' h5
                unfold far at *; omega
            · omega
            · rw [show (((c + 1 : Nat) : Int) - 1) = (c : Int) by omega]; omega
theorem band_next_eq (a b : List Int) (ha : a.length ≤ 100000) (hb : b.length ≤ 100000) (k : Int) (hk : max ((a.length : Int) - b.length) ((b.length : Int) - a.length) ≤ k) (i : Nat) (hi : i ≤ a.length) (af : Int) (al : List Int) (hA : Above a b k i af al) :
    ∃ (f' : Int) (l' : List Int), Above a b k (i + 1) f' l' ∧ Ev (fun K => band_next.f K a b i (bandLo a.length b.length k) (bandHi a.length b.length k) af al) (f', l') := by
  have h1 : -(b.length : Int) ≤ bandLo a.length b.length k ∧ bandLo a.length b.length k ≤ 0 := by unfold bandLo; omega
  have h2 : bandHi a.length b.length k ≤ a.length ∧ 0 ≤ bandHi a.length b.length k ∧ (a.length : Int) - b.length ≤ bandHi a.length b.length k := by unfold bandHi; omega
  have h3 := (band_edges_in a.length b.length k hk).2.2.1
  obtain ⟨c0, hc0⟩ := Int.eq_ofNat_of_zero_le (show 0 ≤ max 0 ((i : Int) - bandHi a.length b.length k) by omega)
  have r0 : Row a b k i c0 (max 0 ((i : Int) - bandHi a.length b.length k)) [] := by
    refine ⟨rfl, by simp; omega, fun j hj => ?_, fun j => ?_, fun j hj hj' hrel => ?_⟩
    · rw [rowAt_out _ _ _ (by simp only [List.length_nil]; omega)]; have := D_ge a b i j; unfold far; omega
    · rw [rowAt_out _ _ _ (by simp only [List.length_nil]; omega)]; exact Int.le_refl _
    · have := rel_in hk hi hj' hrel; omega
  obtain ⟨l', c', e1, e2, e3⟩ := band_next_l0 a b ha hb k hk i hi af al hA (min (b.length : Int) ((i : Int) - bandLo a.length b.length k) + 1 - c0).toNat c0 _ [] (by omega) r0
  refine ⟨_, l', .inr ⟨i, rfl, c', e1, e2⟩, Ev.congr (fun K => ?_) e3⟩
  unfold band_next.f
  rw [mx_max, mn_min, wr (by omega) (by omega), wr (by omega) (by omega), hc0]
/-- The end of all. -/
theorem band_Within_l0 (a b : List Int) (ha : a.length ≤ 100000) (hb : b.length ≤ 100000) (k : Int) (hk0 : 0 ≤ k) (hk' : k < 9223372036854775808) (hk : max ((a.length : Int) - b.length) ((b.length : Int) - a.length) ≤ k) : ∀ (d i : Nat) (af : Int) (al : List Int), i + d = a.length + 1 → Above a b k i af al →
    Ev (fun K => band_Within.l0 K a b k (bandLo a.length b.length k) (bandHi a.length b.length k) ((a.length : Int) + 1) i af al) (if (dist a b : Int) ≤ k then ((dist a b : Int), ((cells a.length b.length k : Nat) : Int), 0) else (0, 0, 3)) := by
  intro d
  induction d with
  | zero =>
    intro i af al hi hA
    rcases hA with ⟨h, _⟩ | ⟨q, hq, c, hc, hr⟩
    · omega
    · obtain rfl : q = a.length := by omega
      obtain ⟨f1, f2, f3⟩ : 0 ≤ af ∧ af ≤ 200000 ∧ al.length ≤ 200000 := by
        have := hr.first
        have := hr.len
        have : -(b.length : Int) ≤ bandLo a.length b.length k := by unfold bandLo; omega
        have : (a.length : Int) - b.length ≤ bandHi a.length b.length k := by unfold bandHi; omega
        omega
      refine ⟨1000000, fun K hK => ?_⟩
      obtain ⟨K, rfl⟩ : ∃ q, K = q + 1 := ⟨K - 1, by omega⟩
      have hlow := hr.low b.length (by omega)
      have heq := fun h1 h => hr.eq b.length h1 (by omega) h
      have hin := fun h => rel_in (i := a.length) (j := b.length) hk (by omega) (by omega) h
      unfold rel at heq hin
      rw [D_all] at hlow heq hin
      show band_Within.l0 (K + 1) a b k (bandLo a.length b.length k) (bandHi a.length b.length k) ((a.length : Int) + 1) i af al = _
      rw [band_Within.l0, if_neg (by omega), band_line_at_eq af al b.length (by omega) (by omega) (by omega), bs]
      by_cases h : (dist a b : Int) ≤ k
      · have := hin (by omega)
        rw [heq (by omega) (by omega), if_pos h, if_pos h, band_Cells_eq a.length b.length k ha hb hk0 hk' K (by omega), bs]
      · rw [if_neg (by omega), if_neg h]
  | succ d ih =>
    intro i af al hi hA
    obtain ⟨f', l', h1, h2⟩ := band_next_eq a b ha hb k hk i (by omega) af al hA
    have h3 := ih (i + 1) f' l' (by omega) h1
    refine Ev.step (f := fun K => (band_next.f K a b i (bandLo a.length b.length k) (bandHi a.length b.length k) af al).bind fun bt => band_Within.l0 K a b k (bandLo a.length b.length k) (bandHi a.length b.length k) ((a.length : Int) + 1) ((i : Int) + 1) bt.1 bt.2) (fun K => ?_) (Ev.bind h2 (by simpa using h3))
    rw [band_Within.l0, if_pos (by omega), wr (by omega) (by omega)]
theorem band_Within_eq (a b : List Int) (ha : a.length ≤ 100000) (hb : b.length ≤ 100000) (k : Int) (hk0 : 0 ≤ k) (hk' : k < 9223372036854775808) :
    Ev (fun K => band_Within.f K a b k) (if (dist a b : Int) ≤ k then ((dist a b : Int), ((cells a.length b.length k : Nat) : Int), 0) else (0, 0, 3)) := by
  have hd := D_ge a b a.length b.length
  rw [D_all] at hd
  by_cases h : max ((a.length : Int) - b.length) ((b.length : Int) - a.length) ≤ k
  · refine Ev.congr (fun K => ?_) (band_Within_l0 a b ha hb k hk0 hk' h (a.length + 1) 0 0 [] (by omega) (.inl ⟨rfl, rfl, rfl⟩))
    unfold band_Within.f
    rw [if_neg (by omega), band_edges_some a.length b.length k (by omega) (by omega) hk' h, bs, itt, wr (by omega) (by omega)]
    rfl
  · rw [if_neg (by omega)]
    refine Ev.congr (fun K => ?_) (Ev.now _)
    unfold band_Within.f
    rw [if_neg (by omega), band_edges_none a.length b.length k (by omega) (by omega) (by omega), bs, ift]
theorem band_Within_neg (a b : List Int) (k : Int) (hk : k < 0) (K : Nat) : band_Within.f K a b k = some (0, 0, 1) := by
  unfold band_Within.f; rw [if_pos hk]

theorem rd_L1_seq {n : Nat} (F : Nat → List Int) {i : Int} {p : Nat} (h : p < n) (e : i = (p : Int)) : rd_L1 (seq n F) i = F p := by
  subst e; unfold rd_L1; rw [Int.toNat_natCast, seq_getD F h]

/-- What both lists have in common behind two places. -/
def T (a b : List Int) (i j : Nat) : Nat := lcs (a.drop i) (b.drop j)
theorem T_out_left {a b : List Int} {i j : Nat} (h : a.length ≤ i) : T a b i j = 0 := by unfold T; rw [List.drop_eq_nil_of_le h]; simp
theorem T_out_right {a b : List Int} {i j : Nat} (h : b.length ≤ j) : T a b i j = 0 := by unfold T; rw [List.drop_eq_nil_of_le h]; simp
theorem T_step {a b : List Int} {i j : Nat} (h : i < a.length) (h' : j < b.length) : T a b i j = if a.getD i 0 = b.getD j 0 then T a b (i + 1) (j + 1) + 1 else max (T a b (i + 1) j) (T a b i (j + 1)) := by
  unfold T; rw [drop_getD h, drop_getD h', lcs_cons]
theorem T_le_left (a b : List Int) (i j : Nat) : T a b i j ≤ a.length - i := by have := lcs_le_left (a.drop i) (b.drop j); unfold T; simpa using this
theorem T_le_right (a b : List Int) (i j : Nat) : T a b i j ≤ b.length - j := by have := lcs_le_right (a.drop i) (b.drop j); unfold T; simpa using this
theorem T_zero (a b : List Int) : T a b 0 0 = lcs a b := rfl
theorem T_down (a b : List Int) (i j : Nat) : T a b (i + 1) j ≤ T a b i j := by
  unfold T; refine lcs_mono ?_ (List.Sublist.refl _)
  rw [← List.drop_drop]; exact List.drop_sublist _ _
theorem T_right (a b : List Int) (i j : Nat) : T a b i (j + 1) ≤ T a b i j := by
  unfold T; refine lcs_mono (List.Sublist.refl _) ?_
  rw [← List.drop_drop]; exact List.drop_sublist _ _
/-- The whole table. -/
def behind (a b : List Int) : List (List Int) := seq (a.length + 1) fun i => seq (b.length + 1) fun j => (T a b i j : Int)

def trow (a b : List Int) (p : Nat) : List Int := seq (b.length + 1) fun q => (T a b p q : Int)
theorem tattingref7_Behind_l1 (a b : List Int) (ha : a.length ≤ 100000) (hb : b.length ≤ 100000) (r : List (List Int)) (i : Nat) (hi : i < a.length) (F : Nat → List Int) (hF : ∀ p, i < p → p ≤ a.length → F p = trow a b p)
    (hr : ∀ G : Nat → List Int, (∀ p, i ≤ p → p ≤ a.length → G p = trow a b p) → Ev (fun k => tattingref7_Behind.l0 k a b (seq (a.length + 1) G) ((i : Int) - 1)) r) : ∀ (j : Nat) (g : Nat → Int), j ≤ b.length → (∀ q, j ≤ q → q ≤ b.length → g q = T a b i q) →
    Ev (fun k => tattingref7_Behind.l1 k a b (seq (a.length + 1) (upd F i (seq (b.length + 1) g))) i ((j : Int) - 1)) r := by
  intro j
  induction j with
  | zero =>
    intro g hj h2
    refine Ev.step (f := fun k => tattingref7_Behind.j2 k a b (seq (a.length + 1) (upd F i (seq (b.length + 1) g))) i (((0 : Nat) : Int) - 1) false) (fun k => ?_) ?_
    · have e : decide ((((0 : Nat) : Int) - 1) ≥ 0) = false := decide_eq_false (by omega)
      rw [tattingref7_Behind.l1, if_pos (by omega), e]
    · refine Ev.step (fun k => ?_) (hr (upd F i (seq (b.length + 1) g)) (fun p hp hp' => ?_))
      · rw [tattingref7_Behind.j2, ift, wr (by omega) (by omega)]
      · by_cases h : p = i
        · subst h; rw [upd_same]; exact seq_ext fun q hq => h2 q (by omega) (by omega)
        · rw [upd_ne _ _ h]; exact hF p (by omega) hp'
  | succ j ih =>
    intro g hj h2
    refine Ev.step (f := fun k => tattingref7_Behind.j2 k a b (seq (a.length + 1) (upd F i (seq (b.length + 1) g))) i (((j + 1 : Nat) : Int) - 1) true) (fun k => ?_) ?_
    · have e : decide ((((j + 1 : Nat) : Int) - 1) ≥ 0) = true := decide_eq_true (by omega)
      rw [tattingref7_Behind.l1, if_pos (by omega), e]
    have hF1 := hF (i + 1) (by omega) (by omega)
    have hu : upd F i (seq (b.length + 1) g) (i + 1) = trow a b (i + 1) := by rw [upd_ne _ _ (by omega)]; exact hF1
    have l0 := seq_length (a.length + 1) (upd F i (seq (b.length + 1) g))
    have l1 := seq_length (b.length + 1) g
    have l2 : (trow a b (i + 1)).length = b.length + 1 := seq_length _ _
    have e1 : rd a (i : Int) = a.getD i 0 := rfl
    have e2 : rd b ((((j + 1 : Nat) : Int)) - 1) = b.getD j 0 := rd_at (by omega)
    have e3 := rd_L1_seq (n := a.length + 1) (upd F i (seq (b.length + 1) g)) (i := (i : Int)) (p := i) (by omega) rfl
    rw [upd_same] at e3
    have e4 := rd_L1_seq (n := a.length + 1) (upd F i (seq (b.length + 1) g)) (i := (i : Int) + 1) (p := i + 1) (by omega) (by omega)
    rw [hu] at e4
    have e5 : rd (trow a b (i + 1)) ((((j + 1 : Nat) : Int)) - 1 + 1) = T a b (i + 1) (j + 1) := rd_seq (n := b.length + 1) (fun q => (T a b (i + 1) q : Int)) (p := j + 1) (by omega) (by omega)
    have e6 : rd (trow a b (i + 1)) ((((j + 1 : Nat) : Int)) - 1) = T a b (i + 1) j := rd_seq (n := b.length + 1) (fun q => (T a b (i + 1) q : Int)) (p := j) (by omega) (by omega)
    have e7 := rd_seq (n := b.length + 1) g (i := (((j + 1 : Nat) : Int)) - 1 + 1) (p := j + 1) (by omega) (by omega)
    have hs := T_step (a := a) (b := b) (i := i) (j := j) hi (by omega)
    have t1 := T_le_left a b (i + 1) (j + 1)
    have v3 := h2 (j + 1) (by omega) (by omega)
    have key : ∀ v : Int, v = T a b i j → Ev (fun k => tattingref7_Behind.l1 k a b ((seq (a.length + 1) (upd F i (seq (b.length + 1) g))).set (i : Int).toNat ((seq (b.length + 1) g).set ((((j + 1 : Nat) : Int)) - 1).toNat v)) i ((((j + 1 : Nat) : Int)) - 1 - 1)) r := by
      intro v hv
      rw [show ((((j + 1 : Nat) : Int)) - 1).toNat = j by omega, show ((((j + 1 : Nat) : Int)) - 1 - 1) = (j : Int) - 1 by omega, Int.toNat_natCast, seq_set, seq_set]
      have hg := ih (upd g j v) (by omega) (fun q hq hq' => by
        by_cases h : q = j
        · subst h; rw [upd_same, hv]
        · rw [upd_ne _ _ h]; exact h2 q (by omega) hq')
      have e : upd (upd F i (seq (b.length + 1) g)) i (seq (b.length + 1) (upd g j v)) = upd F i (seq (b.length + 1) (upd g j v)) := by
        funext p
        by_cases h : p = i
        · subst h; rw [upd_same, upd_same]
        · rw [upd_ne _ _ h, upd_ne _ _ h, upd_ne _ _ h]
      rw [e]; exact hg
    by_cases hab : a.getD i 0 = b.getD j 0
    · refine Ev.step (fun k => ?_) (key (T a b (i + 1) (j + 1) + 1) ?_)
      · simp (disch := omega) only [tattingref7_Behind.j2, itt, ifT, wr, if_pos, e1, e2, e3, e4, e5, l0, l1, l2, if_pos hab]
      · rw [hs, if_pos hab]; simp
    · refine Ev.step (fun k => ?_) (key (mx (T a b (i + 1) j) (g (j + 1))) ?_)
      · simp (disch := omega) only [tattingref7_Behind.j2, itt, ifT, wr, if_pos, e1, e2, e3, e4, e6, e7, l0, l1, l2]
        simp (disch := omega) only [if_neg hab, if_pos, wr]
      · rw [hs, if_neg hab, v3]; unfold mx; omega
theorem tattingref7_Behind_l0 (a b : List Int) (ha : a.length ≤ 100000) (hb : b.length ≤ 100000) : ∀ (i : Nat) (F : Nat → List Int), i ≤ a.length →
    (∀ p, i ≤ p → p ≤ a.length → F p = trow a b p) → Ev (fun k => tattingref7_Behind.l0 k a b (seq (a.length + 1) F) ((i : Int) - 1)) (behind a b) := by
  intro i
  induction i with
  | zero =>
    intro F hi h1
    refine Ev.step (f := fun _ => some _) (fun k => ?_) (Ev.now _)
    simp (disch := omega) only [tattingref7_Behind.l0, if_neg]
    congr 1
    exact seq_ext fun p hp => h1 p (by omega) (by omega)
  | succ i ih =>
    intro F hi h1
    refine Ev.step (fun k => ?_) (tattingref7_Behind_l1 a b ha hb (behind a b) i (by omega) F (fun p hp hp' => h1 p (by omega) hp') (fun G hG => ih G (by omega) hG) b.length (fun _ => 0) (by omega) (fun q hq hq' => ?_))
    · have l0 := seq_length (a.length + 1) F
      have e : ((b.length : Int) + 1).toNat = b.length + 1 := by omega
      simp (disch := omega) only [tattingref7_Behind.l0, wr, if_pos, e, l0, seq_const, seq_set]
      rw [show ((((i + 1 : Nat) : Int)) - 1) = (i : Int) by omega, Int.toNat_natCast]
    · rw [T_out_right (by omega)]; rfl
theorem tattingref7_Behind_eq (a b : List Int) (ha : a.length ≤ 100000) (hb : b.length ≤ 100000) : Ev (fun k => tattingref7_Behind.f k a b) (behind a b) := by
  have hrow : (seq (b.length + 1) fun _ => (0 : Int)) = trow a b a.length := seq_ext fun q hq => by rw [T_out_left (by omega)]; rfl
  have h0 := tattingref7_Behind_l0 a b ha hb a.length (upd (fun _ => []) a.length (seq (b.length + 1) fun _ => 0)) (by omega) (fun p hp hp' => by
    obtain rfl : p = a.length := by omega
    rw [upd_same, hrow])
  have h1 : Ev (fun k => tattingref7_Behind.l1 k a b (seq (a.length + 1) (upd (fun _ => []) a.length (seq (b.length + 1) fun _ => 0))) a.length ((b.length : Int) - 1)) (behind a b) := by
    refine Ev.step (f := fun k => tattingref7_Behind.j2 k a b (seq (a.length + 1) (upd (fun _ => []) a.length (seq (b.length + 1) fun _ => 0))) a.length ((b.length : Int) - 1) false) (fun k => ?_) (Ev.step (fun k => ?_) h0)
    · rw [tattingref7_Behind.l1, if_neg (by omega)]
    · rw [tattingref7_Behind.j2, ift, wr (by omega) (by omega)]
  have h2 : Ev (fun k => tattingref7_Behind.l0 k a b (seq (a.length + 1) (fun _ => [])) a.length) (behind a b) := by
    refine Ev.step (fun k => ?_) h1
    have l0 := seq_length (a.length + 1) (fun _ => ([] : List Int))
    have e : ((b.length : Int) + 1).toNat = b.length + 1 := by omega
    simp (disch := omega) only [tattingref7_Behind.l0, wr, if_pos, e, l0, seq_const, seq_set]
    rw [Int.toNat_natCast]
  refine Ev.congr (fun k => ?_) h2
  have e : ((a.length : Int) + 1).toNat = a.length + 1 := by omega
  unfold tattingref7_Behind.f
  simp (disch := omega) only [wr, if_pos, e, seq_const]

theorem tattingref7_Len_eq (a b : List Int) (ha : a.length ≤ 100000) (hb : b.length ≤ 100000) : Ev (fun k => tattingref7_Len.f k a b) (lcs a b : Int) := by
  unfold tattingref7_Len.f
  refine Ev.bind (tattingref7_Behind_eq a b ha hb) ?_
  refine Ev.congr (fun k => ?_) (Ev.now _)
  have l0 : (behind a b).length = a.length + 1 := seq_length _ _
  have e3 : rd_L1 (behind a b) 0 = trow a b 0 := rd_L1_seq (n := a.length + 1) _ (p := 0) (by omega) rfl
  have l1 : (trow a b 0).length = b.length + 1 := seq_length _ _
  have e4 : rd (trow a b 0) 0 = T a b 0 0 := rd_seq (n := b.length + 1) _ (p := 0) (by omega) rfl
  simp (disch := omega) only [if_pos, l0, e3, l1, e4]
  rfl

theorem tattingref7_Dist_eq (a b : List Int) (ha : a.length ≤ 100000) (hb : b.length ≤ 100000) : Ev (fun k => tattingref7_Dist.f k a b) (dist a b : Int) := by
  unfold tattingref7_Dist.f
  refine Ev.bind (tattingref7_Len_eq a b ha hb) (Ev.congr (fun k => ?_) (Ev.now _))
  have := dist_add a b
  have := lcs_le_left a b
  simp (disch := omega) only [wr]
  congr 1; omega

theorem awake_ev : ∃ K, tattinglaw19_awake.f K = some true := ⟨400, by decide +kernel⟩
theorem law_BandEdge : tattinglaw19_BandEdge.Pure := by
  intro x y _ _ _ _ _ _
  have haw : Ev tattinglaw19_awake.f true := by
    obtain ⟨K, h⟩ := awake_ev
    exact Ev.of tattinglaw19_awake.mono h
  refine Ev.rounds (g := fun K => tattinglaw19_BandEdge.f K x y) ?_
  unfold tattinglaw19_BandEdge.f
  refine Ev.bind haw ?_
  simp only [itt, ifT]
  by_cases ha : (x.length : Int) > 40
  · refine Ev.step (f := fun _ => some true) (fun K => ?_) (Ev.now _)
    rw [if_pos ha, tattinglaw19_BandEdge.j0, itt]
  by_cases hb : (y.length : Int) > 40
  · refine Ev.step (f := fun _ => some true) (fun K => ?_) (Ev.now _)
    rw [if_neg ha, decide_eq_true hb, tattinglaw19_BandEdge.j0, itt]
  simp only [if_neg ha, decide_eq_false hb]
  have hd := dist_add x y
  obtain ⟨K1, h1⟩ := tattingref7_Dist_eq x y (by omega) (by omega)
  obtain ⟨K2, h2⟩ := band_Within_eq x y (by omega) (by omega) (dist x y) (by omega) (by omega)
  rw [if_pos (Int.le_refl _)] at h2
  by_cases h0 : dist x y = 0
  · refine ⟨1000 + K1 + K2, fun K hK => ?_⟩
    obtain ⟨K, rfl⟩ : ∃ m, K = m + 1 := ⟨K - 1, by omega⟩
    have e1 : tattingref7_Dist.f K x y = some _ := h1 K (by omega)
    have e2 : band_Within.f K x y (dist x y : Int) = some _ := h2 K (by omega)
    show tattinglaw19_BandEdge.j0 (K + 1) x y false = some true
    rw [tattinglaw19_BandEdge.j0, ift, e1, bs, e2, bs, wr (by omega) (by omega), band_Within_neg x y _ (by omega), bs]
    simp only [h0, ifT]
    rfl
  · obtain ⟨K3, h3⟩ := band_Within_eq x y (by omega) (by omega) ((dist x y : Int) - 1) (by omega) (by omega)
    rw [if_neg (by omega)] at h3
    refine ⟨1000 + K1 + K2 + K3, fun K hK => ?_⟩
    obtain ⟨K, rfl⟩ : ∃ m, K = m + 1 := ⟨K - 1, by omega⟩
    have e1 : tattingref7_Dist.f K x y = some _ := h1 K (by omega)
    have e2 : band_Within.f K x y (dist x y : Int) = some _ := h2 K (by omega)
    have e3 : band_Within.f K x y ((dist x y : Int) - 1) = some _ := h3 K (by omega)
    show tattinglaw19_BandEdge.j0 (K + 1) x y false = some true
    rw [tattinglaw19_BandEdge.j0, ift, e1, bs, e2, bs, wr (by omega) (by omega), e3, bs]
    simp only [ifT]
    rw [if_neg (by omega), if_pos (by omega)]
    rfl

theorem BandEdge : tattinglaw19_BandEdge.Pure := law_BandEdge

end Go.Proofs.Ytcjngbpmdmfbdaa.Pure
namespace Go.Proofs.Ytcjngbpmdmfbdaa.PrintWords
/-- The row's word under the name by which the row calls it. -/
abbrev sized_ints := @Go.Proofs.YtcjngbpmdmfbdaaW.PrintWords.sized_ints
end Go.Proofs.Ytcjngbpmdmfbdaa.PrintWords
