/- The list that the growing band finds is good and as long as may be, and each bound that is tried is counted: over lists alone. -/
import Derived.Test.YtcjngbpmdmfbdaaPBandRunsx8
import Derived.Test.YtcjngbpmdmfbdaaWSized
namespace Go.Proofs.Ytcjngbpmdmfbdaa.Pure
open Go.RowKit Go.Proofs.Ytcjngbpmdmfbdaa.PBandRuns Go.Proofs.YtcjngbpmdmfbdaaW.PrintWords Go.Proofs.YtcjngbpmdmfbdaaW.PrintLast Go.Proofs.YtcjngbpmdmfbdaaW.PrintMore
set_option linter.unusedVariables false
set_option linter.unusedSimpArgs false

/-! Words for the pure side: whole numbers that do not wrap, reads of lists. -/
theorem wr {x : Int} (h : -9223372036854775808 ≤ x) (h' : x < 9223372036854775808) : wrap64 x = x := by unfold wrap64; omega
theorem rd_nat (xs : List Int) (n : Nat) : rd xs (n : Int) = xs.getD n 0 := rfl
theorem rd_at {xs : List Int} {i : Int} {n : Nat} (h : i = (n : Int)) : rd xs i = xs.getD n 0 := by subst h; rfl
theorem drop_getD {xs : List Int} {i : Nat} (h : i < xs.length) : xs.drop i = xs.getD i 0 :: xs.drop (i + 1) := by
  rw [List.drop_eq_getElem_cons h]; simp [List.getD_eq_getElem?_getD, h]
theorem take_getD {xs : List Int} {i : Nat} (h : i < xs.length) : xs.take (i + 1) = xs.take i ++ [xs.getD i 0] := by
  rw [List.take_succ_eq_append_getElem h]; simp [List.getD_eq_getElem?_getD, h]

theorem lz_bind {α β : Type} {a a' : Option α} {f : α → Option β} (h : a = a') : a.bind f = a'.bind f := by rw [h]
theorem lz_ite {α : Type} {c c' : Prop} [s : Decidable c] [s' : Decidable c'] {t e : α} (h : c = c') : ite c t e = ite c' t e := by
  subst h; rw [Subsingleton.elim s s']
attribute [local congr] lz_bind lz_ite
theorem bs {α β : Type} (a : α) (f : α → Option β) : (some a).bind f = f a := by simp
theorem itt {α : Type} (t e : α) : (if (true = true) then t else e) = t := by simp
theorem ift {α : Type} (t e : α) : (if (false = true) then t else e) = e := by simp
theorem ifT {α : Type} (t e : α) : (if True then t else e) = t := by simp
theorem ifF {α : Type} (t e : α) : (if False then t else e) = e := by simp

theorem u8_wf {x : Int} (h : (Lit.int .u8 x).wf = true) : 0 ≤ x ∧ x < 256 := by
  have h' := h
  simp only [Lit.wf, Bool.and_eq_true, decide_eq_true_eq] at h'
  have e1 : IntKind.u8.min = 0 := by rfl
  have e2 : IntKind.u8.max = 255 := by rfl
  rw [e1, e2] at h'
  omega
theorem i64_wf {x : Int} (h : (Lit.int .i64 x).wf = true) : -9223372036854775808 ≤ x ∧ x < 9223372036854775808 := by
  have h' := h
  simp only [Lit.wf, Bool.and_eq_true, decide_eq_true_eq] at h'
  have e1 : IntKind.i64.min = -9223372036854775808 := by decide
  have e2 : IntKind.i64.max = 9223372036854775807 := by decide
  rw [e1, e2] at h'
  omega
theorem tmod_nat (x n : Nat) : Int.tmod (x : Int) (n : Int) = ((x % n : Nat) : Int) := by
  rw [Int.tmod_eq_emod_of_nonneg (by omega)]; exact (Int.natCast_emod _ _).symm
/-- A number within a list's places and its end. -/
theorem place (x : Int) (n : Nat) (h : 0 ≤ x ∧ x < 256) (hn : n ≤ 1000000) : ∃ p : Nat, p ≤ n ∧ Int.tmod (wrap64 x) (wrap64 ((n : Int) + 1)) = p := by
  obtain ⟨y, rfl⟩ := Int.eq_ofNat_of_zero_le h.1
  rw [wr (by omega) (by omega), wr (by omega) (by omega)]
  refine ⟨y % (n + 1), by have := Nat.mod_lt y (show 0 < n + 1 by omega); omega, ?_⟩
  have := tmod_nat y (n + 1)
  simpa using this

/-! The longest common subsequence of two lists of whole numbers: no program in sight. -/

def lcs : List Int → List Int → Nat
  | [], _ => 0
  | _ :: _, [] => 0
  | a :: xt, b :: yt => if a = b then lcs xt yt + 1 else max (lcs xt (b :: yt)) (lcs (a :: xt) yt)
termination_by xs ys => xs.length + ys.length

@[simp] theorem lcs_nil_left (ys : List Int) : lcs [] ys = 0 := by cases ys <;> simp [lcs]
@[simp] theorem lcs_nil_right (xs : List Int) : lcs xs [] = 0 := by cases xs <;> simp [lcs]
theorem lcs_cons (a b : Int) (xt yt : List Int) : lcs (a :: xt) (b :: yt) = if a = b then lcs xt yt + 1 else max (lcs xt (b :: yt)) (lcs (a :: xt) yt) := by
  rw [lcs]

theorem lcs_ub (xs ys : List Int) : ∀ s : List Int, s.Sublist xs → s.Sublist ys → s.length ≤ lcs xs ys := by
  induction xs, ys using lcs.induct with
  | case1 ys => intro s h _; simp at h; subst h; simp
  | case2 a xt => intro s _ h; simp at h; subst h; simp
  | case3 xt b yt ih =>
    intro s h1 h2
    rw [lcs_cons, if_pos rfl]
    cases s with
    | nil => simp
    | cons c s =>
      have h1' : s.Sublist xt := by
        cases h1 with
        | cons _ h => exact (List.sublist_cons_self c s).trans h
        | cons_cons _ h => exact h
      have h2' : s.Sublist yt := by
        cases h2 with
        | cons _ h => exact (List.sublist_cons_self c s).trans h
        | cons_cons _ h => exact h
      have := ih s h1' h2'
      simp; omega
  | case4 a xt b yt hne ih1 ih2 =>
    intro s h1 h2
    rw [lcs_cons, if_neg hne]
    cases s with
    | nil => simp
    | cons c s =>
      by_cases hc : c = a
      · subst hc
        have h2' : (c :: s).Sublist yt := by
          cases h2 with
          | cons _ h => exact h
          | cons_cons _ h => exact absurd rfl hne
        have := ih2 _ h1 h2'
        omega
      · have h1' : (c :: s).Sublist xt := by
          cases h1 with
          | cons _ h => exact h
          | cons_cons _ h => exact absurd rfl hc
        have := ih1 _ h1' h2
        omega

theorem lcs_ex (xs ys : List Int) : ∃ s : List Int, s.Sublist xs ∧ s.Sublist ys ∧ s.length = lcs xs ys := by
  induction xs, ys using lcs.induct with
  | case1 ys => exact ⟨[], by simp⟩
  | case2 a xt => exact ⟨[], by simp⟩
  | case3 xt b yt ih =>
    obtain ⟨s, h1, h2, h3⟩ := ih
    exact ⟨b :: s, h1.cons_cons b, h2.cons_cons b, by rw [lcs_cons, if_pos rfl]; simp [h3]⟩
  | case4 a xt b yt hne ih1 ih2 =>
    rw [lcs_cons, if_neg hne]
    by_cases h : lcs (a :: xt) yt ≤ lcs xt (b :: yt)
    · obtain ⟨s, h1, h2, h3⟩ := ih1
      exact ⟨s, h1.cons a, h2, by omega⟩
    · obtain ⟨s, h1, h2, h3⟩ := ih2
      exact ⟨s, h1, h2.cons b, by omega⟩

theorem lcs_unique {xs ys : List Int} {n : Nat} (h : ∃ s : List Int, s.Sublist xs ∧ s.Sublist ys ∧ s.length = n) (h' : ∀ s : List Int, s.Sublist xs → s.Sublist ys → s.length ≤ n) : lcs xs ys = n := by
  obtain ⟨s, h1, h2, h3⟩ := h
  obtain ⟨t, h4, h5, h6⟩ := lcs_ex xs ys
  have := lcs_ub xs ys s h1 h2
  have := h' t h4 h5
  omega

theorem lcs_comm (xs ys : List Int) : lcs xs ys = lcs ys xs := by
  obtain ⟨s, h1, h2, h3⟩ := lcs_ex ys xs
  exact lcs_unique ⟨s, h2, h1, h3⟩ fun t a b => lcs_ub ys xs t b a

theorem lcs_reverse (xs ys : List Int) : lcs xs.reverse ys.reverse = lcs xs ys := by
  obtain ⟨s, h1, h2, h3⟩ := lcs_ex xs ys
  refine lcs_unique ⟨s.reverse, h1.reverse, h2.reverse, by simp [h3]⟩ fun t a b => ?_
  have := lcs_ub xs ys t.reverse (by simpa using a.reverse) (by simpa using b.reverse)
  simpa using this

theorem lcs_mono {xs xs' ys ys' : List Int} (h : xs.Sublist xs') (h' : ys.Sublist ys') : lcs xs ys ≤ lcs xs' ys' := by
  obtain ⟨s, h1, h2, h3⟩ := lcs_ex xs ys
  have := lcs_ub xs' ys' s (h1.trans h) (h2.trans h')
  omega

theorem lcs_le_left (xs ys : List Int) : lcs xs ys ≤ xs.length := by
  obtain ⟨s, h1, _, h3⟩ := lcs_ex xs ys
  have := h1.length_le
  omega
theorem lcs_le_right (xs ys : List Int) : lcs xs ys ≤ ys.length := by rw [lcs_comm]; exact lcs_le_left _ _

theorem lcs_self (xs : List Int) : lcs xs xs = xs.length := by
  have := lcs_ub xs xs xs (List.Sublist.refl _) (List.Sublist.refl _)
  have := lcs_le_left xs xs
  omega

theorem lcs_cons_same (a : Int) (xs ys : List Int) : lcs (a :: xs) (a :: ys) = lcs xs ys + 1 := by rw [lcs_cons, if_pos rfl]

theorem lcs_cons_le (a : Int) (xs ys : List Int) : lcs (a :: xs) ys ≤ lcs xs ys + 1 := by
  obtain ⟨s, h1, h2, h3⟩ := lcs_ex (a :: xs) ys
  cases s with
  | nil => simp at h3; omega
  | cons c s =>
    have h1' : s.Sublist xs := by
      cases h1 with
      | cons _ h => exact (List.sublist_cons_self c s).trans h
      | cons_cons _ h => exact h
    have := lcs_ub xs ys s h1' ((List.sublist_cons_self c s).trans h2)
    simp at h3; omega
theorem lcs_cons_le_right (b : Int) (xs ys : List Int) : lcs xs (b :: ys) ≤ lcs xs ys + 1 := by
  rw [lcs_comm, lcs_comm xs ys]; exact lcs_cons_le b ys xs

theorem lcs_snoc_same (a : Int) (xs ys : List Int) : lcs (xs ++ [a]) (ys ++ [a]) = lcs xs ys + 1 := by
  rw [← lcs_reverse, ← lcs_reverse xs ys]; simp [lcs_cons_same]
theorem lcs_snoc (a b : Int) (xs ys : List Int) : lcs (xs ++ [a]) (ys ++ [b]) = if a = b then lcs xs ys + 1 else max (lcs xs (ys ++ [b])) (lcs (xs ++ [a]) ys) := by
  rw [← lcs_reverse, ← lcs_reverse xs ys, ← lcs_reverse xs (ys ++ [b]), ← lcs_reverse (xs ++ [a]) ys]
  simp [lcs_cons]
theorem lcs_snoc_le (a : Int) (xs ys : List Int) : lcs (xs ++ [a]) ys ≤ lcs xs ys + 1 := by
  rw [← lcs_reverse, ← lcs_reverse xs ys]; simp only [List.reverse_append, List.reverse_cons, List.reverse_nil, List.nil_append, List.singleton_append]; exact lcs_cons_le _ _ _

/-- Cut both lists anywhere: never more together. -/
theorem lcs_append_ge (xs xs' ys ys' : List Int) : lcs xs ys + lcs xs' ys' ≤ lcs (xs ++ xs') (ys ++ ys') := by
  obtain ⟨s, h1, h2, h3⟩ := lcs_ex xs ys
  obtain ⟨t, h4, h5, h6⟩ := lcs_ex xs' ys'
  have := lcs_ub (xs ++ xs') (ys ++ ys') (s ++ t) (h1.append h4) (h2.append h5)
  simp at this; omega

theorem sublist_append_split {s xs ys : List Int} (h : s.Sublist (xs ++ ys)) : ∃ s1 s2, s = s1 ++ s2 ∧ s1.Sublist xs ∧ s2.Sublist ys := by
  obtain ⟨l1, l2, rfl, h1, h2⟩ := List.sublist_append_iff.1 h
  exact ⟨l1, l2, rfl, h1, h2⟩

/-- Cut the first list: somewhere in the second one both together are just xt much. -/
theorem lcs_cut (xs xs' ys : List Int) : ∃ j, j ≤ ys.length ∧ lcs (xs ++ xs') ys = lcs xs (ys.take j) + lcs xs' (ys.drop j) := by
  obtain ⟨s, h1, h2, h3⟩ := lcs_ex (xs ++ xs') ys
  obtain ⟨s1, s2, rfl, h4, h5⟩ := sublist_append_split h1
  obtain ⟨l1, l2, rfl, h6, h7⟩ := List.append_sublist_iff.1 h2
  refine ⟨l1.length, by simp, ?_⟩
  have a1 := lcs_ub xs l1 s1 h4 h6
  have a2 := lcs_ub xs' l2 s2 h5 h7
  have a3 := lcs_append_ge xs xs' l1 l2
  simp only [List.take_left, List.drop_left]
  simp at h3; omega

/-- The same ahead of both: xt much more. -/
theorem lcs_prefix (p xs ys : List Int) : lcs (p ++ xs) (p ++ ys) = p.length + lcs xs ys := by
  induction p with
  | nil => simp
  | cons a p ih => simp only [List.cons_append, lcs_cons_same, ih, List.length_cons]; omega
theorem lcs_suffix (p xs ys : List Int) : lcs (xs ++ p) (ys ++ p) = p.length + lcs xs ys := by
  rw [← lcs_reverse, ← lcs_reverse xs ys]; simp [lcs_prefix]

/-- The distance. -/
def dist (xs ys : List Int) : Nat := xs.length + ys.length - 2 * lcs xs ys
theorem dist_add (xs ys : List Int) : dist xs ys + 2 * lcs xs ys = xs.length + ys.length := by
  have := lcs_le_left xs ys
  have := lcs_le_right xs ys
  unfold dist; omega
theorem dist_comm (xs ys : List Int) : dist xs ys = dist ys xs := by
  have := dist_add xs ys
  have := dist_add ys xs
  have := lcs_comm xs ys
  omega
theorem lcs_full {xs ys : List Int} (h : lcs xs ys = xs.length) (h' : lcs xs ys = ys.length) : xs = ys := by
  obtain ⟨s, h1, h2, h3⟩ := lcs_ex xs ys
  have e1 := h1.eq_of_length (by omega)
  have e2 := h2.eq_of_length (by omega)
  rw [← e1, ← e2]
theorem dist_zero_iff (xs ys : List Int) : dist xs ys = 0 ↔ xs = ys := by
  constructor
  · intro h
    have := dist_add xs ys
    have := lcs_le_left xs ys
    have := lcs_le_right xs ys
    exact lcs_full (by omega) (by omega)
  · rintro rfl
    have := dist_add xs xs
    have := lcs_self xs
    omega

/-- Two parts of one list have at least so much in common. -/
theorem sublist_both : ∀ (z s t : List Int), s.Sublist z → t.Sublist z → ∃ u : List Int, u.Sublist s ∧ u.Sublist t ∧ s.length + t.length ≤ z.length + u.length := by
  intro z
  induction z with
  | nil => intro s t h1 h2; simp at h1 h2; subst h1; subst h2; exact ⟨[], by simp⟩
  | cons c z ih =>
    intro s t h1 h2
    cases h1 with
    | cons _ h1 =>
      cases h2 with
      | cons _ h2 => obtain ⟨u, a, b, l⟩ := ih s t h1 h2; exact ⟨u, a, b, by simp; omega⟩
      | cons_cons _ h2 => rename_i t; obtain ⟨u, a, b, l⟩ := ih s t h1 h2; exact ⟨u, a, b.cons _, by simp; omega⟩
    | cons_cons _ h1 =>
      rename_i s
      cases h2 with
      | cons _ h2 => obtain ⟨u, a, b, l⟩ := ih s t h1 h2; exact ⟨u, a.cons _, b, by simp; omega⟩
      | cons_cons _ h2 => rename_i t; obtain ⟨u, a, b, l⟩ := ih s t h1 h2; exact ⟨c :: u, a.cons_cons _, b.cons_cons _, by simp; omega⟩
theorem dist_triangle (xs zs ys : List Int) : dist xs ys ≤ dist xs zs + dist zs ys := by
  obtain ⟨s, h1, h2, h3⟩ := lcs_ex xs zs
  obtain ⟨t, h4, h5, h6⟩ := lcs_ex zs ys
  obtain ⟨u, a, b, l⟩ := sublist_both zs s t h2 h4
  have := lcs_ub xs ys u (a.trans h1) (b.trans h5)
  have := dist_add xs ys
  have := dist_add xs zs
  have := dist_add zs ys
  omega


/-! Lists told place by place. -/
def seq {α : Type} (n : Nat) (F : Nat → α) : List α := (List.range n).map F
def upd {α : Type} (F : Nat → α) (i : Nat) (v : α) : Nat → α := fun j => if j = i then v else F j
theorem upd_same {α : Type} (F : Nat → α) (i : Nat) (v : α) : upd F i v i = v := by simp [upd]
theorem upd_ne {α : Type} (F : Nat → α) {i j : Nat} (v : α) (h : j ≠ i) : upd F i v j = F j := by simp [upd, h]
theorem seq_length {α : Type} (n : Nat) (F : Nat → α) : (seq n F).length = n := by simp [seq]
theorem seq_getD {α : Type} {n : Nat} (F : Nat → α) {i : Nat} (h : i < n) (d : α) : (seq n F).getD i d = F i := by simp [seq, h, List.getD_eq_getElem?_getD]
theorem seq_getElem {α : Type} {n : Nat} (F : Nat → α) {i : Nat} (h : i < (seq n F).length) : (seq n F)[i] = F i := by simp [seq]
theorem seq_ext {α : Type} {n : Nat} {F G : Nat → α} (h : ∀ i, i < n → F i = G i) : seq n F = seq n G := by
  unfold seq; exact List.map_congr_left fun i hi => h i (List.mem_range.1 hi)
theorem seq_set {α : Type} {n : Nat} (F : Nat → α) (i : Nat) (v : α) : (seq n F).set i v = seq n (upd F i v) := by
  apply List.ext_getElem
  · simp [seq_length]
  · intro j h1 h2
    rw [List.getElem_set, seq_getElem, seq_getElem]
    unfold upd
    by_cases h : i = j
    · rw [if_pos h, if_pos h.symm]
    · rw [if_neg h, if_neg (fun e => h e.symm)]
theorem seq_const {α : Type} (n : Nat) (v : α) : List.replicate n v = seq n (fun _ => v) := by
  apply List.ext_getElem
  · simp [seq_length]
  · intro j h1 h2; simp [seq]
theorem seq_snoc {α : Type} (n : Nat) (F : Nat → α) : seq (n + 1) F = seq n F ++ [F n] := by simp [seq, List.range_succ]
theorem seq_of {α : Type} (xs : List α) (d : α) : xs = seq xs.length (fun i => xs.getD i d) := by
  apply List.ext_getElem
  · simp [seq_length]
  · intro j h1 h2; rw [seq_getElem]; simp [List.getD_eq_getElem?_getD, h1]
theorem seq_inj {α : Type} {n : Nat} {F G : Nat → α} (h : seq n F = seq n G) : ∀ i, i < n → F i = G i := by
  intro i hi
  have := congrArg (fun l => l[i]?) h
  simpa [seq, hi] using this
theorem rd_seq {n : Nat} (F : Nat → Int) {i : Int} {p : Nat} (h : p < n) (e : i = (p : Int)) : rd (seq n F) i = F p := by
  subst e; rw [rd_nat, seq_getD F h]

/-! Sums of the first so many numbers. -/
def sumN : Nat → (Nat → Nat) → Nat
  | 0, _ => 0
  | n + 1, f => sumN n f + f n
theorem sumN_congr {n : Nat} {f g : Nat → Nat} (h : ∀ i, i < n → f i = g i) : sumN n f = sumN n g := by
  induction n with
  | zero => rfl
  | succ n ih => simp only [sumN]; rw [ih (fun i hi => h i (by omega)), h n (by omega)]
theorem sumN_add (n : Nat) (f g : Nat → Nat) : sumN n (fun i => f i + g i) = sumN n f + sumN n g := by
  induction n with
  | zero => rfl
  | succ n ih => simp only [sumN]; omega
theorem sumN_zero (n : Nat) : sumN n (fun _ => 0) = 0 := by
  induction n with
  | zero => rfl
  | succ n ih => simp only [sumN]; omega
theorem sumN_le {n : Nat} {f g : Nat → Nat} (h : ∀ i, i < n → f i ≤ g i) : sumN n f ≤ sumN n g := by
  induction n with
  | zero => exact Nat.le_refl _
  | succ n ih => simp only [sumN]; have := ih (fun i hi => h i (by omega)); have := h n (by omega); omega
theorem sumN_const (n c : Nat) : sumN n (fun _ => c) = n * c := by
  induction n with
  | zero => simp [sumN]
  | succ n ih => simp only [sumN]; rw [ih, Nat.succ_mul]
theorem sumN_comm (n m : Nat) (f : Nat → Nat → Nat) : sumN n (fun i => sumN m fun j => f i j) = sumN m (fun j => sumN n fun i => f i j) := by
  induction n with
  | zero => simp only [sumN]; rw [sumN_zero]
  | succ n ih => simp only [sumN]; rw [ih, sumN_add]
theorem sumN_interval (n : Nat) (a b : Int) : ((sumN n (fun i => if a ≤ (i : Int) ∧ (i : Int) ≤ b then 1 else 0) : Nat) : Int) = max 0 (min ((n : Int) - 1) b - max 0 a + 1) := by
  induction n with
  | zero => simp only [sumN]; omega
  | succ n ih =>
    simp only [sumN]
    by_cases h : a ≤ (n : Int) ∧ (n : Int) ≤ b
    · rw [if_pos h]; omega
    · rw [if_neg h]; omega
/-- The points of the grid on diagonal d. -/
def onDiag (n m : Nat) (d : Int) : Nat := sumN (n + 1) fun i => sumN (m + 1) fun j => if (i : Int) - (j : Int) = d then 1 else 0
theorem onDiag_eq (n m : Nat) (d : Int) (h1 : -(m : Int) ≤ d) (h2 : d ≤ n) : ((onDiag n m d : Nat) : Int) = min (m : Int) (n - d) - max 0 (-d) + 1 := by
  unfold onDiag
  have e : (sumN (n + 1) fun i => sumN (m + 1) fun j => if (i : Int) - (j : Int) = d then 1 else 0) = sumN (n + 1) fun i => if d ≤ (i : Int) ∧ (i : Int) ≤ m + d then 1 else 0 := by
    refine sumN_congr fun i hi => ?_
    have h3 := sumN_interval (m + 1) ((i : Int) - d) ((i : Int) - d)
    have h4 : (sumN (m + 1) fun j => if (i : Int) - (j : Int) = d then 1 else 0) = sumN (m + 1) (fun j => if (i : Int) - d ≤ (j : Int) ∧ (j : Int) ≤ (i : Int) - d then 1 else 0) := by
      refine sumN_congr fun j hj => ?_
      by_cases h : (i : Int) - (j : Int) = d
      · rw [if_pos h, if_pos (by omega)]
      · rw [if_neg h, if_neg (by omega)]
    rw [h4]
    split <;> omega
  rw [e]
  have := sumN_interval (n + 1) d (m + d)
  omega
def band (n m : Nat) (lo hi : Int) : Nat := sumN (n + 1) fun i => sumN (m + 1) fun j => if lo ≤ (i : Int) - (j : Int) ∧ (i : Int) - (j : Int) ≤ hi then 1 else 0
theorem band_empty (n m : Nat) (lo hi : Int) (h : hi < lo) : band n m lo hi = 0 := by
  unfold band
  rw [sumN_congr (g := fun _ => 0) (fun i _ => ?_), sumN_zero]
  rw [sumN_congr (g := fun _ => 0) (fun j _ => ?_), sumN_zero]
  rw [if_neg (by omega)]
theorem band_step (n m : Nat) (lo hi : Int) (h : lo ≤ hi + 1) : band n m lo (hi + 1) = band n m lo hi + onDiag n m (hi + 1) := by
  unfold band onDiag
  rw [← sumN_add]
  refine sumN_congr fun i _ => ?_
  rw [← sumN_add]
  refine sumN_congr fun j _ => ?_
  by_cases h1 : lo ≤ (i : Int) - (j : Int) ∧ (i : Int) - (j : Int) ≤ hi
  · rw [if_pos h1, if_pos (by omega), if_neg (by omega)]
  · rw [if_neg h1]
    by_cases h2 : (i : Int) - (j : Int) = hi + 1
    · rw [if_pos (by omega), if_pos h2]
    · rw [if_neg (by omega), if_neg h2]
theorem band_le (n m : Nat) (lo hi : Int) : band n m lo hi ≤ (n + 1) * (m + 1) := by
  have : band n m lo hi ≤ sumN (n + 1) fun _ => sumN (m + 1) fun _ => 1 := by
    unfold band
    refine sumN_le fun i _ => sumN_le fun j _ => ?_
    split <;> omega
  rw [sumN_const, sumN_const] at this
  simpa using this
def apart (x y : Int) : Int := if x > y then x - y else y - x
/-- The points that are not too far from the middle. -/
def cells (n m : Nat) (k : Int) : Nat := sumN (n + 1) fun i => sumN (m + 1) fun j => if apart i j + apart ((n : Int) - i) ((m : Int) - j) ≤ k then 1 else 0
def bandLo (n m : Nat) (k : Int) : Int := max (-(m : Int)) (min 0 ((n : Int) - m) - min ((k - max ((n : Int) - m) ((m : Int) - n)) / 2) m)
def bandHi (n m : Nat) (k : Int) : Int := min (n : Int) (max 0 ((n : Int) - m) + min ((k - max ((n : Int) - m) ((m : Int) - n)) / 2) n)
theorem cells_none (n m : Nat) (k : Int) (h : k < max ((n : Int) - m) ((m : Int) - n)) : cells n m k = 0 := by
  unfold cells
  rw [sumN_congr (g := fun _ => 0) (fun i _ => ?_), sumN_zero]
  rw [sumN_congr (g := fun _ => 0) (fun j _ => ?_), sumN_zero]
  rw [if_neg]
  unfold apart
  split <;> split <;> omega
theorem cells_band (n m : Nat) (k : Int) (h : max ((n : Int) - m) ((m : Int) - n) ≤ k) : cells n m k = band n m (bandLo n m k) (bandHi n m k) := by
  unfold cells band bandLo bandHi
  refine sumN_congr fun i hi => sumN_congr fun j hj => ?_
  have e : (apart i j + apart ((n : Int) - i) ((m : Int) - j) ≤ k) ↔ (max (-(m : Int)) (min 0 ((n : Int) - m) - min ((k - max ((n : Int) - m) ((m : Int) - n)) / 2) m) ≤ (i : Int) - j ∧ (i : Int) - j ≤ min (n : Int) (max 0 ((n : Int) - m) + min ((k - max ((n : Int) - m) ((m : Int) - n)) / 2) n)) := by
    unfold apart
    split <;> split <;> omega
  by_cases c : apart i j + apart ((n : Int) - i) ((m : Int) - j) ≤ k
  · rw [if_pos c, if_pos (e.1 c)]
  · rw [if_neg c, if_neg (fun h => c (e.2 h))]

theorem mx_max (a b : Int) : mx a b = max a b := by unfold mx; omega
theorem mn_min (a b : Int) : mn a b = min a b := by unfold mn; omega
theorem band_is_eq (a : Int) : band_is.f a = some (decide (0 ≤ a ∧ a ≤ 1048576)) := by
  unfold band_is.f
  by_cases h1 : 0 ≤ a <;> by_cases h2 : a ≤ 1048576 <;> simp [h1, h2]
theorem band_edges_none (n m : Nat) (k : Int) (hn : n ≤ 1048576) (hm : m ≤ 1048576) (h : k < max ((n : Int) - m) ((m : Int) - n)) : band_edges.f n m k = some (0, 0, false) := by
  unfold band_edges.f
  simp (disch := omega) only [wr, mx_max]
  rw [if_pos (by omega)]
theorem band_edges_some (n m : Nat) (k : Int) (hn : n ≤ 1048576) (hm : m ≤ 1048576) (hk : k < 9223372036854775808) (h : max ((n : Int) - m) ((m : Int) - n) ≤ k) : band_edges.f n m k = some (bandLo n m k, bandHi n m k, true) := by
  unfold band_edges.f bandLo bandHi
  have e1 : -((n : Int) - m) = (m : Int) - n := by omega
  have e2 : ∀ x : Int, 0 ≤ x → Int.tdiv x 2 = x / 2 := fun x hx => Int.tdiv_eq_ediv_of_nonneg hx
  rw [wr (x := (n : Int) - m) (by omega) (by omega), wr (x := -((n : Int) - m)) (by omega) (by omega), e1]
  simp only [mx_max, mn_min]
  rw [if_neg (by omega), wr (x := k - max ((n : Int) - m) ((m : Int) - n)) (by omega) (by omega), e2 _ (by omega), wr (x := (k - max ((n : Int) - m) ((m : Int) - n)) / 2) (by omega) (by omega)]
  rw [wr (x := -(m : Int)) (by omega) (by omega), wr (by omega) (by omega), wr (by omega) (by omega)]
theorem band_Cells_l0 (n m : Nat) (hn : n ≤ 100000) (hm : m ≤ 100000) (lo hi : Int) (h1 : -(m : Int) ≤ lo) (h2 : hi ≤ n) : ∀ (e : Nat) (d : Int), lo ≤ d → d + e = max (hi + 1) lo → ∀ k, e < k →
    band_Cells.l0 k n m hi (band n m lo (d - 1)) d = some ((band n m lo hi : Nat) : Int) := by
  have hb : ∀ x, ((band n m lo x : Nat) : Int) ≤ 100001 * 100001 := fun x => by
    have h := band_le n m lo x
    have h' : (n + 1) * (m + 1) ≤ 100001 * 100001 := Nat.mul_le_mul (by omega) (by omega)
    omega
  intro e
  induction e with
  | zero =>
    intro d hd he k hk
    obtain ⟨k, rfl⟩ : ∃ q, k = q + 1 := ⟨k - 1, by omega⟩
    rw [band_Cells.l0, if_neg (by omega)]
    by_cases c : hi + 1 ≤ lo
    · rw [band_empty n m lo (d - 1) (by omega), band_empty n m lo hi (by omega)]
    · rw [show d - 1 = hi by omega]
  | succ e ih =>
    intro d hd he k hk
    obtain ⟨k, rfl⟩ : ∃ q, k = q + 1 := ⟨k - 1, by omega⟩
    rw [band_Cells.l0, if_pos (by omega)]
    have hs := band_step n m lo (d - 1) (by omega)
    rw [show d - 1 + 1 = d by omega] at hs
    have ho := onDiag_eq n m d (by omega) (by omega)
    have hbd := hb (d - 1)
    have h4 := ih (d + 1) (by omega) (by omega) k (by omega)
    rw [show d + 1 - 1 = d by omega, hs] at h4
    simp only [mx_max, mn_min]
    rw [wr (x := (n : Int) - d) (by omega) (by omega), wr (x := -d) (by omega) (by omega), wr (x := min (m : Int) ((n : Int) - d) - max 0 (-d)) (by omega) (by omega), wr (x := min (m : Int) ((n : Int) - d) - max 0 (-d) + 1) (by omega) (by omega), wr (x := d + 1) (by omega) (by omega), wr (by omega) (by omega), ← ho]
    exact_mod_cast h4
theorem band_edges_in (n m : Nat) (k : Int) (h : max ((n : Int) - m) ((m : Int) - n) ≤ k) : -(m : Int) ≤ bandLo n m k ∧ bandHi n m k ≤ n ∧ bandLo n m k ≤ bandHi n m k ∧ bandHi n m k - bandLo n m k ≤ k := by
  unfold bandLo bandHi; omega
theorem band_Cells_out (n m k : Int) (h : ¬ (0 ≤ n ∧ n ≤ 1048576 ∧ 0 ≤ m ∧ m ≤ 1048576 ∧ 0 ≤ k)) (K : Nat) (hK : 0 < K) : band_Cells.f K n m k = some 0 := by
  obtain ⟨K, rfl⟩ : ∃ q, K = q + 1 := ⟨K - 1, by omega⟩
  unfold band_Cells.f
  rw [band_is_eq, bs]
  by_cases h1 : 0 ≤ n ∧ n ≤ 1048576
  · rw [decide_eq_true h1, itt, band_is_eq, bs]
    by_cases h2 : 0 ≤ m ∧ m ≤ 1048576
    · rw [decide_eq_true h2, itt, decide_eq_true (by omega), band_Cells.j0, itt]
    · rw [decide_eq_false h2, ift, band_Cells.j0, itt]
  · rw [decide_eq_false h1, ift, band_Cells.j0, itt]
theorem band_Cells_eq (n m : Nat) (k : Int) (hn : n ≤ 100000) (hm : m ≤ 100000) (h0 : 0 ≤ k) (hk : k < 9223372036854775808) (K : Nat) (hK : n + m + 3 < K) : band_Cells.f K n m k = some ((cells n m k : Nat) : Int) := by
  obtain ⟨K, rfl⟩ : ∃ q, K = q + 1 := ⟨K - 1, by omega⟩
  unfold band_Cells.f
  rw [band_is_eq, bs, decide_eq_true (by omega), itt, band_is_eq, bs, decide_eq_true (by omega), itt, decide_eq_false (by omega), band_Cells.j0, ift]
  by_cases h : max ((n : Int) - m) ((m : Int) - n) ≤ k
  · obtain ⟨e1, e2, e3, e4⟩ := band_edges_in n m k h
    rw [band_edges_some n m k (by omega) (by omega) hk h, bs, itt, cells_band n m k h]
    have := band_Cells_l0 n m hn hm (bandLo n m k) (bandHi n m k) e1 e2 (bandHi n m k + 1 - bandLo n m k).toNat (bandLo n m k) (by omega) (by omega) K (by omega)
    rw [band_empty n m _ (bandLo n m k - 1) (by omega)] at this
    exact this
  · rw [band_edges_none n m k (by omega) (by omega) (by omega), bs, ift, cells_none n m k (by omega)]; rfl

/-- What both lists have in common ahead of two places. -/
def H (a b : List Int) (i j : Nat) : Nat := lcs (a.take i) (b.take j)
theorem H_zero_left (a b : List Int) (j : Nat) : H a b 0 j = 0 := by unfold H; simp
theorem H_zero_right (a b : List Int) (i : Nat) : H a b i 0 = 0 := by unfold H; simp
theorem H_step {a b : List Int} {i j : Nat} (h : i < a.length) (h' : j < b.length) : H a b (i + 1) (j + 1) = if a.getD i 0 = b.getD j 0 then H a b i j + 1 else max (H a b i (j + 1)) (H a b (i + 1) j) := by
  unfold H; rw [take_getD h, take_getD h', lcs_snoc]
theorem H_le_left (a b : List Int) (i j : Nat) : H a b i j ≤ a.length := by have := lcs_le_left (a.take i) (b.take j); unfold H; simp at this; omega
theorem H_le_i (a b : List Int) (i j : Nat) : H a b i j ≤ i := by have := lcs_le_left (a.take i) (b.take j); unfold H; simp at this; omega
theorem H_le_j (a b : List Int) (i j : Nat) : H a b i j ≤ j := by have := lcs_le_right (a.take i) (b.take j); unfold H; simp at this; omega
theorem H_down (a b : List Int) (i j : Nat) : H a b i j ≤ H a b (i + 1) j := by
  unfold H
  exact lcs_mono (by rw [show a.take i = (a.take (i + 1)).take i by rw [List.take_take]; congr 1; omega]; exact List.take_sublist _ _) (List.Sublist.refl _)
theorem H_right (a b : List Int) (i j : Nat) : H a b i j ≤ H a b i (j + 1) := by
  unfold H
  exact lcs_mono (List.Sublist.refl _) (by rw [show b.take j = (b.take (j + 1)).take j by rw [List.take_take]; congr 1; omega]; exact List.take_sublist _ _)
theorem H_all (a b : List Int) : H a b a.length b.length = lcs a b := by unfold H; simp
def ahead (a b : List Int) : List (List Int) := seq (a.length + 1) fun i => seq (b.length + 1) fun j => (H a b i j : Int)

/-- How far both beginnings are from each other. -/
def D (a b : List Int) (i j : Nat) : Int := (i : Int) + j - 2 * H a b i j
theorem D_ge (a b : List Int) (i j : Nat) : (i : Int) - j ≤ D a b i j ∧ (j : Int) - i ≤ D a b i j ∧ 0 ≤ D a b i j ∧ D a b i j ≤ (i : Int) + j := by
  have := H_le_i a b i j
  have := H_le_j a b i j
  unfold D; omega
theorem D_zero_left (a b : List Int) (j : Nat) : D a b 0 j = j := by unfold D; rw [H_zero_left]; omega
theorem D_zero_right (a b : List Int) (i : Nat) : D a b i 0 = i := by unfold D; rw [H_zero_right]; omega
theorem D_down (a b : List Int) (i j : Nat) : D a b (i + 1) j ≤ D a b i j + 1 := by have := H_down a b i j; unfold D; omega
theorem D_right (a b : List Int) (i j : Nat) : D a b i (j + 1) ≤ D a b i j + 1 := by have := H_right a b i j; unfold D; omega
theorem D_same {a b : List Int} {i j : Nat} (h : i < a.length) (h' : j < b.length) (e : a.getD i 0 = b.getD j 0) : D a b (i + 1) (j + 1) = D a b i j := by
  have := H_step h h'; rw [if_pos e] at this; unfold D; omega
theorem D_other {a b : List Int} {i j : Nat} (h : i < a.length) (h' : j < b.length) (e : ¬ a.getD i 0 = b.getD j 0) : D a b (i + 1) (j + 1) = min (D a b i (j + 1)) (D a b (i + 1) j) + 1 := by
  have := H_step h h'; rw [if_neg e] at this; unfold D; omega
theorem D_all (a b : List Int) : D a b a.length b.length = dist a b := by
  have := dist_add a b; have := H_all a b; unfold D; omega
def far : Int := 1152921504606846976
def rowAt (f : Int) (l : List Int) (j : Int) : Int := if f ≤ j ∧ j < f + l.length then rd l (j - f) else far
theorem band_line_at_eq (f : Int) (l : List Int) (j : Int) (hf : 0 ≤ f ∧ f ≤ 1000000) (hl : l.length ≤ 1000000) (hj : -1 ≤ j ∧ j ≤ 1000000) : band_line_at.f f l j = some (rowAt f l j) := by
  unfold band_line_at.f rowAt
  rw [wr (x := f + (l.length : Int)) (by omega) (by omega), wr (x := j - f) (by omega) (by omega)]
  by_cases h1 : j < f
  · rw [if_pos h1, if_neg (by omega)]; rfl
  · rw [if_neg h1]
    by_cases h2 : j ≥ f + l.length
    · rw [if_pos h2, if_neg (by omega)]; rfl
    · rw [if_neg h2, if_pos (by omega), if_pos (by omega), if_pos (by omega)]
theorem rowAt_out (f : Int) (l : List Int) (j : Int) (h : ¬ (f ≤ j ∧ j < f + l.length)) : rowAt f l j = far := by unfold rowAt; rw [if_neg h]
theorem rowAt_snoc_old (f : Int) (l : List Int) (v j : Int) (h : j < f + l.length) : rowAt f (l ++ [v]) j = rowAt f l j := by
  unfold rowAt
  simp only [List.length_append, List.length_cons, List.length_nil]
  by_cases h1 : f ≤ j
  · rw [if_pos (by omega), if_pos (by omega)]
    unfold rd
    rw [List.getD_eq_getElem?_getD, List.getD_eq_getElem?_getD, List.getElem?_append_left (by omega)]
  · rw [if_neg (by omega), if_neg (by omega)]
theorem rowAt_snoc_new (f : Int) (l : List Int) (v : Int) : rowAt f (l ++ [v]) (f + l.length) = v := by
  unfold rowAt
  simp only [List.length_append, List.length_cons, List.length_nil]
  rw [if_pos (by omega), show f + (l.length : Int) - f = (l.length : Int) by omega, rd_nat]
  simp [List.getD_eq_getElem?_getD]
/-- A point through which one may come within the bound. -/
def rel (a b : List Int) (k : Int) (i j : Nat) : Prop := D a b i j + ((a.length : Int) - b.length - ((i : Int) - j)) ≤ k ∧ D a b i j - ((a.length : Int) - b.length - ((i : Int) - j)) ≤ k
/-- What a row of the band tells, up to a column. -/
structure Row (a b : List Int) (k : Int) (i c : Nat) (f : Int) (l : List Int) : Prop where
  first : f = max 0 ((i : Int) - bandHi a.length b.length k)
  len : f + l.length = c
  low : ∀ j : Nat, j ≤ b.length → D a b i j ≤ rowAt f l j
  high : ∀ j : Int, rowAt f l j ≤ far
  eq : ∀ j : Nat, j < c → j ≤ b.length → rel a b k i j → rowAt f l j = D a b i j
theorem rel_in {a b : List Int} {k : Int} {i j : Nat} (hk : max ((a.length : Int) - b.length) ((b.length : Int) - a.length) ≤ k) (hi : i ≤ a.length) (hj : j ≤ b.length) (h : rel a b k i j) :
    bandLo a.length b.length k ≤ (i : Int) - j ∧ (i : Int) - j ≤ bandHi a.length b.length k := by
  have hd := D_ge a b i j
  unfold rel at h
  unfold bandLo bandHi
  omega
/-- The value that comes next. -/
theorem row_next {a b : List Int} (ha : a.length ≤ 100000) (hb : b.length ≤ 100000) {k : Int} (hk : max ((a.length : Int) - b.length) ((b.length : Int) - a.length) ≤ k) {i c : Nat} {f : Int} {l : List Int} (hi : i ≤ a.length) (hc : c ≤ b.length)
    (hr : Row a b k i c f l) (v : Int) (h1 : D a b i c ≤ v) (h2 : v ≤ far) (h3 : rel a b k i c → v = D a b i c) : Row a b k i (c + 1) f (l ++ [v]) := by
  have hlen := hr.len
  refine ⟨hr.first, by simp; omega, fun j hj => ?_, fun j => ?_, fun j hj hj' hrel => ?_⟩
  · by_cases h : (j : Int) < c
    · rw [rowAt_snoc_old _ _ _ _ (by omega)]; exact hr.low j hj
    · by_cases e : j = c
      · subst e; rw [← hlen, rowAt_snoc_new]; exact h1
      · rw [rowAt_out _ _ _ (by simp; omega)]
        have := D_ge a b i j
        unfold far; omega
  · by_cases h : j < c
    · rw [rowAt_snoc_old _ _ _ _ (by omega)]; exact hr.high j
    · by_cases e : j = c
      · subst e; rw [← hlen, rowAt_snoc_new]; exact h2
      · rw [rowAt_out _ _ _ (by simp; omega)]; exact Int.le_refl _
  · by_cases h : j < c
    · rw [rowAt_snoc_old _ _ _ _ (by omega)]; exact hr.eq j h hj' hrel
    · obtain rfl : j = c := by omega
      rw [← hlen, rowAt_snoc_new]; exact h3 hrel
/-- The row ahead: none, or told to its end. -/
def Above (a b : List Int) (k : Int) (i : Nat) (f : Int) (l : List Int) : Prop :=
  (i = 0 ∧ f = 0 ∧ l = []) ∨ ∃ p, i = p + 1 ∧ ∃ c : Nat, (c : Int) = min (b.length : Int) ((p : Int) - bandLo a.length b.length k) + 1 ∧ Row a b k p c f l
theorem above_facts {a b : List Int} (ha : a.length ≤ 100000) (hb : b.length ≤ 100000) {k : Int} (hk : max ((a.length : Int) - b.length) ((b.length : Int) - a.length) ≤ k) {p : Nat} (hp : p < a.length) {f : Int} {l : List Int} (h : Above a b k (p + 1) f l) :
    (∀ j : Nat, j ≤ b.length → D a b p j ≤ rowAt f l j) ∧ (∀ j : Int, rowAt f l j ≤ far) ∧ (∀ j : Nat, j ≤ b.length → rel a b k p j → rowAt f l j = D a b p j) := by
  rcases h with ⟨h, _⟩ | ⟨q, hq, c, hc, hr⟩
  · omega
  · obtain rfl : q = p := by omega
    refine ⟨hr.low, hr.high, fun j hj hrel => hr.eq j ?_ hj hrel⟩
    have := rel_in hk (by omega) hj hrel
    omega
theorem above_bounds {a b : List Int} (ha : a.length ≤ 100000) (hb : b.length ≤ 100000) {k : Int} {i : Nat} (hi : i ≤ a.length) {f : Int} {l : List Int} (h : Above a b k i f l) : 0 ≤ f ∧ f ≤ 200000 ∧ l.length ≤ 200000 := by
  rcases h with ⟨_, rfl, rfl⟩ | ⟨q, hq, c, hc, hr⟩
  · simp
  · have := hr.first
    have := hr.len
    have : -(b.length : Int) ≤ bandLo a.length b.length k := by unfold bandLo; omega
    have : -(b.length : Int) ≤ bandHi a.length b.length k ∨ bandHi a.length b.length k < -(b.length : Int) := by omega
    omega
theorem band_next_l0 (a b : List Int) (ha : a.length ≤ 100000) (hb : b.length ≤ 100000) (k : Int) (hk : max ((a.length : Int) - b.length) ((b.length : Int) - a.length) ≤ k) (i : Nat) (hi : i ≤ a.length) (af : Int) (al : List Int) (hA : Above a b k i af al) :
    ∀ (d c : Nat) (f : Int) (l : List Int), (c : Int) + d = min (b.length : Int) ((i : Int) - bandLo a.length b.length k) + 1 → Row a b k i c f l →
    ∃ (l' : List Int) (c' : Nat), (c' : Int) = min (b.length : Int) ((i : Int) - bandLo a.length b.length k) + 1 ∧ Row a b k i c' f l' ∧
      Ev (fun K => band_next.l0 K a b i (min (b.length : Int) ((i : Int) - bandLo a.length b.length k)) c af al f l) (f, l') := by
  intro d
  induction d with
  | zero =>
    intro c f l hc hr
    refine ⟨l, c, by omega, hr, Ev.step (f := fun _ => some _) (fun K => ?_) (Ev.now _)⟩
    rw [band_next.l0, if_neg (by omega)]
  | succ d ih =>
    intro c f l hc hr
    have hlo : -(b.length : Int) ≤ bandLo a.length b.length k := by unfold bandLo; omega
    have hcb : c ≤ b.length := by omega
    have hlen := hr.len
    have hf := hr.first
    obtain ⟨hb1, hb2, hb3⟩ := above_bounds ha hb hi hA
    have hD := D_ge a b i c
    -- the value, whatever it is, is appended
    have go : ∀ v : Int, D a b i c ≤ v → v ≤ far → (rel a b k i c → v = D a b i c) →
        (Ev (fun K => band_next.l0 K a b i (min (b.length : Int) ((i : Int) - bandLo a.length b.length k)) ((c : Int) + 1) af al f (l ++ [v])) = Ev (fun K => band_next.l0 K a b i (min (b.length : Int) ((i : Int) - bandLo a.length b.length k)) (((c + 1 : Nat)) : Int) af al f (l ++ [v]))) ∧
        ∃ (l' : List Int) (c' : Nat), (c' : Int) = min (b.length : Int) ((i : Int) - bandLo a.length b.length k) + 1 ∧ Row a b k i c' f l' ∧
          Ev (fun K => band_next.l0 K a b i (min (b.length : Int) ((i : Int) - bandLo a.length b.length k)) (((c + 1 : Nat)) : Int) af al f (l ++ [v])) (f, l') := fun v h1 h2 h3 =>
      ⟨by simp, ih (c + 1) f (l ++ [v]) (by omega) (row_next ha hb hk hi hcb hr v h1 h2 h3)⟩
    have hl : l.length < 17592186044416 := by omega
    have fin : ∀ (v : Int) (step : Nat → Option (Int × List Int)), D a b i c ≤ v → v ≤ far → (rel a b k i c → v = D a b i c) →
        (∀ r, Ev (fun K => band_next.l0 K a b i (min (b.length : Int) ((i : Int) - bandLo a.length b.length k)) ((c : Int) + 1) af al f (l ++ [v])) r → Ev (fun K => band_next.l0 K a b i (min (b.length : Int) ((i : Int) - bandLo a.length b.length k)) c af al f l) r) →
        ∃ (l' : List Int) (c' : Nat), (c' : Int) = min (b.length : Int) ((i : Int) - bandLo a.length b.length k) + 1 ∧ Row a b k i c' f l' ∧
          Ev (fun K => band_next.l0 K a b i (min (b.length : Int) ((i : Int) - bandLo a.length b.length k)) c af al f l) (f, l') := by
      intro v _ h1 h2 h3 hs
      obtain ⟨e, l', c', h4, h5, h6⟩ := go v h1 h2 h3
      exact ⟨l', c', h4, h5, hs _ (by rw [show ((c : Int) + 1) = (((c + 1 : Nat)) : Int) by omega]; exact h6)⟩
    by_cases h00 : i = 0 ∧ c = 0
    · obtain ⟨rfl, rfl⟩ := h00
      refine fin 0 (fun _ => none) (by rw [D_zero_left]; simp) (by unfold far; omega) (fun _ => by rw [D_zero_left]; rfl) (fun r hr' => ?_)
      refine Ev.step (f := fun K => band_next.j1 K a b ((0 : Nat) : Int) (min (b.length : Int) (((0 : Nat) : Int) - bandLo a.length b.length k)) ((0 : Nat) : Int) true af al f l) (fun K => ?_) (Ev.step (fun K => ?_) hr')
      · rw [band_next.l0, if_pos (by omega), if_pos (by omega)]; rfl
      · rw [band_next.j1, itt, if_pos hl, wr (by omega) (by omega)]
    · -- not the first point of all
      have s1 : ∀ r, Ev (fun K => band_next.j1 K a b i (min (b.length : Int) ((i : Int) - bandLo a.length b.length k)) c false af al f l) r → Ev (fun K => band_next.l0 K a b i (min (b.length : Int) ((i : Int) - bandLo a.length b.length k)) c af al f l) r := by
        intro r h
        refine Ev.step (fun K => ?_) h
        rw [band_next.l0, if_pos (by omega)]
        by_cases h0 : i = 0
        · rw [if_pos (by omega), show ((c : Int) == 0) = false by rw [beq_eq_false_iff_ne]; omega]
        · rw [if_neg (by omega)]
      have other : ∀ (hs : ∀ r, Ev (fun K => band_next.j2 K a b i (min (b.length : Int) ((i : Int) - bandLo a.length b.length k)) c false af al f l) r → Ev (fun K => band_next.j1 K a b i (min (b.length : Int) ((i : Int) - bandLo a.length b.length k)) c false af al f l) r)
          (h1 : D a b i c ≤ min (min far (rowAt af al c + 1)) (rowAt f l ((c : Int) - 1) + 1)) (h3 : rel a b k i c → min (min far (rowAt af al c + 1)) (rowAt f l ((c : Int) - 1) + 1) = D a b i c)
          (hx : -1 ≤ rowAt af al c ∧ rowAt af al c ≤ far) (hy : -1 ≤ rowAt f l ((c : Int) - 1) ∧ rowAt f l ((c : Int) - 1) ≤ far),
          ∃ (l' : List Int) (c' : Nat), (c' : Int) = min (b.length : Int) ((i : Int) - bandLo a.length b.length k) + 1 ∧ Row a b k i c' f l' ∧
          Ev (fun K => band_next.l0 K a b i (min (b.length : Int) ((i : Int) - bandLo a.length b.length k)) c af al f l) (f, l') := by
        intro hs h1 h3 hx hy
        refine fin _ (fun _ => none) h1 (by unfold far at *; omega) h3 (fun r hr' => s1 r (hs r (Ev.step (fun K => ?_) hr')))
        rw [band_next.j2, ift, band_line_at_eq af al c (by omega) (by omega) (by omega), bs, wr (x := (c : Int) - 1) (by omega) (by omega), band_line_at_eq f l _ (by omega) (by omega) (by omega), bs, if_pos hl, wr (x := (c : Int) + 1) (by omega) (by omega)]
        have e : mn (mn 1152921504606846976 (wrap64 (rowAt af al c + 1))) (wrap64 (rowAt f l ((c : Int) - 1) + 1)) = min (min far (rowAt af al c + 1)) (rowAt f l ((c : Int) - 1) + 1) := by
          unfold far at *
          rw [wr (by omega) (by omega), wr (by omega) (by omega)]
          unfold mn; omega
        rw [e]
      cases i with
      | zero =>
        -- the first row
        obtain ⟨c, rfl⟩ : ∃ q, c = q + 1 := ⟨c - 1, by omega⟩
        have hx : rowAt af al ((c + 1 : Nat) : Int) = far := by
          rcases hA with ⟨_, rfl, rfl⟩ | ⟨q, hq, _⟩
          · exact rowAt_out _ _ _ (by simp only [List.length_nil]; omega)
          · omega
        have hy := hr.low c (by omega)
        have hy' := hr.high (c : Int)
        have hy'' := hr.eq c (by omega) (by omega)
        rw [D_zero_left] at hy hy''
        refine other (fun r h => Ev.step (fun K => ?_) h) ?_ ?_ ?_ ?_
        · rw [band_next.j1, ift, if_neg (by omega)]
        · rw [hx, D_zero_left, show (((c + 1 : Nat) : Int) - 1) = (c : Int) by omega]; unfold far at *; omega
        · intro hrel
          have h5 : rel a b k 0 c := by
            unfold rel at *; rw [D_zero_left] at *; omega
          rw [hx, D_zero_left, show (((c + 1 : Nat) : Int) - 1) = (c : Int) by omega, hy'' h5]; unfold far; omega
        · rw [hx]; unfold far; omega
        · rw [show (((c + 1 : Nat) : Int) - 1) = (c : Int) by omega]; omega
      | succ p =>
        obtain ⟨A1, A2, A3⟩ := above_facts ha hb hk (show p < a.length by omega) hA
        have Dp := D_ge a b p c
        have dd := D_down a b p c
        cases c with
        | zero =>
          have hy : rowAt f l (((0 : Nat) : Int) - 1) = far := rowAt_out _ _ _ (by omega)
          refine other (fun r h => Ev.step (fun K => ?_) h) ?_ ?_ ?_ ?_
          · rw [band_next.j1, ift, if_pos (by omega), if_neg (by omega)]
          · rw [hy]
            have := A1 0 (by omega)
            unfold far at *; omega
          · intro hrel
            have h5 : rel a b k p 0 := by
              unfold rel at *; rw [D_zero_right] at *; omega
            rw [hy, A3 0 (by omega) h5, D_zero_right, D_zero_right]; unfold far; omega
          · have := A1 0 (by omega)
            have := A2 ((0 : Nat) : Int)
            omega
          · rw [hy]; unfold far; omega
        | succ c =>
          have e1 : rd a ((((p + 1 : Nat) : Int)) - 1) = a.getD p 0 := rd_at (by omega)
          have e2 : rd b ((((c + 1 : Nat) : Int)) - 1) = b.getD c 0 := rd_at (by omega)
          have s2 : ∀ flag : Bool, ((a.getD p 0) == (b.getD c 0)) = flag → ∀ r, Ev (fun K => band_next.j2 K a b ((p + 1 : Nat) : Int) (min (b.length : Int) (((p + 1 : Nat) : Int) - bandLo a.length b.length k)) ((c + 1 : Nat) : Int) flag af al f l) r → Ev (fun K => band_next.j1 K a b ((p + 1 : Nat) : Int) (min (b.length : Int) (((p + 1 : Nat) : Int) - bandLo a.length b.length k)) ((c + 1 : Nat) : Int) false af al f l) r := by
            intro flag hflag r h
            refine Ev.step (fun K => ?_) h
            rw [band_next.j1, ift, if_pos (by omega), if_pos (by omega), wr (x := (((p + 1 : Nat) : Int)) - 1) (by omega) (by omega), wr (x := (((c + 1 : Nat) : Int)) - 1) (by omega) (by omega), if_pos (by omega), if_pos (by omega), if_pos (by omega), if_pos (by omega), e1, e2, hflag]
          have B1 := A1 c (by omega)
          have B2 := A2 (c : Int)
          by_cases hab : a.getD p 0 = b.getD c 0
          · have hs := D_same (a := a) (b := b) (i := p) (j := c) (by omega) (by omega) hab
            refine fin (rowAt af al c) (fun _ => none) (by omega) B2 (fun hrel => ?_) (fun r hr' => s1 r (s2 true (beq_iff_eq.2 hab) r (Ev.step (fun K => ?_) hr')))
            · rw [hs]
              refine A3 c (by omega) ?_
              unfold rel at *; rw [hs] at hrel; omega
            · rw [band_next.j2, itt, wr (x := (((c + 1 : Nat) : Int)) - 1) (by omega) (by omega), show (((c + 1 : Nat) : Int)) - 1 = (c : Int) by omega, band_line_at_eq af al c (by omega) (by omega) (by omega), bs, if_pos hl, wr (by omega) (by omega)]
          · have hs := D_other (a := a) (b := b) (i := p) (j := c) (by omega) (by omega) hab
            have hy := hr.low c (by omega)
            have hy' := hr.high (c : Int)
            have hy'' := hr.eq c (by omega) (by omega)
            have hx := A1 (c + 1) (by omega)
            have hx' := A2 ((c + 1 : Nat) : Int)
            have hx'' := A3 (c + 1) (by omega)
            have d1 := D_ge a b p (c + 1)
            have d2 := D_ge a b (p + 1) c
            refine other (s2 false (beq_eq_false_iff_ne.2 hab)) ?_ ?_ ?_ ?_
            · rw [show (((c + 1 : Nat) : Int) - 1) = (c : Int) by omega]; unfold far at *; omega
            · intro hrel
              rw [show (((c + 1 : Nat) : Int) - 1) = (c : Int) by omega]
              by_cases hle : D a b p (c + 1) ≤ D a b (p + 1) c
              · have h5 : rel a b k p (c + 1) := by unfold rel at *; omega
                have := hx'' h5
                unfold far at *; omega
              · have h5 : rel a b k (p + 1) c := by unfold rel at *; omega
                have := hy'' h5
                unfold far at *; omega
            · omega
            · rw [show (((c + 1 : Nat) : Int) - 1) = (c : Int) by omega]; omega
theorem band_next_eq (a b : List Int) (ha : a.length ≤ 100000) (hb : b.length ≤ 100000) (k : Int) (hk : max ((a.length : Int) - b.length) ((b.length : Int) - a.length) ≤ k) (i : Nat) (hi : i ≤ a.length) (af : Int) (al : List Int) (hA : Above a b k i af al) :
    ∃ (f' : Int) (l' : List Int), Above a b k (i + 1) f' l' ∧ Ev (fun K => band_next.f K a b i (bandLo a.length b.length k) (bandHi a.length b.length k) af al) (f', l') := by
  have h1 : -(b.length : Int) ≤ bandLo a.length b.length k ∧ bandLo a.length b.length k ≤ 0 := by unfold bandLo; omega
  have h2 : bandHi a.length b.length k ≤ a.length ∧ 0 ≤ bandHi a.length b.length k ∧ (a.length : Int) - b.length ≤ bandHi a.length b.length k := by unfold bandHi; omega
  have h3 := (band_edges_in a.length b.length k hk).2.2.1
  obtain ⟨c0, hc0⟩ := Int.eq_ofNat_of_zero_le (show 0 ≤ max 0 ((i : Int) - bandHi a.length b.length k) by omega)
  have r0 : Row a b k i c0 (max 0 ((i : Int) - bandHi a.length b.length k)) [] := by
    refine ⟨rfl, by simp; omega, fun j hj => ?_, fun j => ?_, fun j hj hj' hrel => ?_⟩
    · rw [rowAt_out _ _ _ (by simp only [List.length_nil]; omega)]; have := D_ge a b i j; unfold far; omega
    · rw [rowAt_out _ _ _ (by simp only [List.length_nil]; omega)]; exact Int.le_refl _
    · have := rel_in hk hi hj' hrel; omega
  obtain ⟨l', c', e1, e2, e3⟩ := band_next_l0 a b ha hb k hk i hi af al hA (min (b.length : Int) ((i : Int) - bandLo a.length b.length k) + 1 - c0).toNat c0 _ [] (by omega) r0
  refine ⟨_, l', .inr ⟨i, rfl, c', e1, e2⟩, Ev.congr (fun K => ?_) e3⟩
  unfold band_next.f
  rw [mx_max, mn_min, wr (by omega) (by omega), wr (by omega) (by omega), hc0]
/-- The end of all. -/
theorem band_Within_l0 (a b : List Int) (ha : a.length ≤ 100000) (hb : b.length ≤ 100000) (k : Int) (hk0 : 0 ≤ k) (hk' : k < 9223372036854775808) (hk : max ((a.length : Int) - b.length) ((b.length : Int) - a.length) ≤ k) : ∀ (d i : Nat) (af : Int) (al : List Int), i + d = a.length + 1 → Above a b k i af al →
    Ev (fun K => band_Within.l0 K a b k (bandLo a.length b.length k) (bandHi a.length b.length k) ((a.length : Int) + 1) i af al) (if (dist a b : Int) ≤ k then ((dist a b : Int), ((cells a.length b.length k : Nat) : Int), 0) else (0, 0, 3)) := by
  intro d
  induction d with
  | zero =>
    intro i af al hi hA
    rcases hA with ⟨h, _⟩ | ⟨q, hq, c, hc, hr⟩
    · omega
    · obtain rfl : q = a.length := by omega
      obtain ⟨f1, f2, f3⟩ : 0 ≤ af ∧ af ≤ 200000 ∧ al.length ≤ 200000 := by
        have := hr.first
        have := hr.len
        have : -(b.length : Int) ≤ bandLo a.length b.length k := by unfold bandLo; omega
        have : (a.length : Int) - b.length ≤ bandHi a.length b.length k := by unfold bandHi; omega
        omega
      refine ⟨1000000, fun K hK => ?_⟩
      obtain ⟨K, rfl⟩ : ∃ q, K = q + 1 := ⟨K - 1, by omega⟩
      have hlow := hr.low b.length (by omega)
      have heq := fun h1 h => hr.eq b.length h1 (by omega) h
      have hin := fun h => rel_in (i := a.length) (j := b.length) hk (by omega) (by omega) h
      unfold rel at heq hin
      rw [D_all] at hlow heq hin
      show band_Within.l0 (K + 1) a b k (bandLo a.length b.length k) (bandHi a.length b.length k) ((a.length : Int) + 1) i af al = _
      rw [band_Within.l0, if_neg (by omega), band_line_at_eq af al b.length (by omega) (by omega) (by omega), bs]
      by_cases h : (dist a b : Int) ≤ k
      · have := hin (by omega)
        rw [heq (by omega) (by omega), if_pos h, if_pos h, band_Cells_eq a.length b.length k ha hb hk0 hk' K (by omega), bs]
      · rw [if_neg (by omega), if_neg h]
  | succ d ih =>
    intro i af al hi hA
    obtain ⟨f', l', h1, h2⟩ := band_next_eq a b ha hb k hk i (by omega) af al hA
    have h3 := ih (i + 1) f' l' (by omega) h1
    refine Ev.step (f := fun K => (band_next.f K a b i (bandLo a.length b.length k) (bandHi a.length b.length k) af al).bind fun bt => band_Within.l0 K a b k (bandLo a.length b.length k) (bandHi a.length b.length k) ((a.length : Int) + 1) ((i : Int) + 1) bt.1 bt.2) (fun K => ?_) (Ev.bind h2 (by simpa using h3))
    rw [band_Within.l0, if_pos (by omega), wr (by omega) (by omega)]
theorem band_Within_eq (a b : List Int) (ha : a.length ≤ 100000) (hb : b.length ≤ 100000) (k : Int) (hk0 : 0 ≤ k) (hk' : k < 9223372036854775808) :
    Ev (fun K => band_Within.f K a b k) (if (dist a b : Int) ≤ k then ((dist a b : Int), ((cells a.length b.length k : Nat) : Int), 0) else (0, 0, 3)) := by
  have hd := D_ge a b a.length b.length
  rw [D_all] at hd
  by_cases h : max ((a.length : Int) - b.length) ((b.length : Int) - a.length) ≤ k
  · refine Ev.congr (fun K => ?_) (band_Within_l0 a b ha hb k hk0 hk' h (a.length + 1) 0 0 [] (by omega) (.inl ⟨rfl, rfl, rfl⟩))
    unfold band_Within.f
    rw [if_neg (by omega), band_edges_some a.length b.length k (by omega) (by omega) hk' h, bs, itt, wr (by omega) (by omega)]
    rfl
  · rw [if_neg (by omega)]
    refine Ev.congr (fun K => ?_) (Ev.now _)
    unfold band_Within.f
    rw [if_neg (by omega), band_edges_none a.length b.length k (by omega) (by omega) (by omega), bs, ift]
theorem band_Within_neg (a b : List Int) (k : Int) (hk : k < 0) (K : Nat) : band_Within.f K a b k = some (0, 0, 1) := by
  unfold band_Within.f; rw [if_pos hk]

theorem rd_L1_seq {n : Nat} (F : Nat → List Int) {i : Int} {p : Nat} (h : p < n) (e : i = (p : Int)) : rd_L1 (seq n F) i = F p := by
  subst e; unfold rd_L1; rw [Int.toNat_natCast, seq_getD F h]

/-- What both lists have in common behind two places. -/
def T (a b : List Int) (i j : Nat) : Nat := lcs (a.drop i) (b.drop j)
theorem T_out_left {a b : List Int} {i j : Nat} (h : a.length ≤ i) : T a b i j = 0 := by unfold T; rw [List.drop_eq_nil_of_le h]; simp
theorem T_out_right {a b : List Int} {i j : Nat} (h : b.length ≤ j) : T a b i j = 0 := by unfold T; rw [List.drop_eq_nil_of_le h]; simp
theorem T_step {a b : List Int} {i j : Nat} (h : i < a.length) (h' : j < b.length) : T a b i j = if a.getD i 0 = b.getD j 0 then T a b (i + 1) (j + 1) + 1 else max (T a b (i + 1) j) (T a b i (j + 1)) := by
  unfold T; rw [drop_getD h, drop_getD h', lcs_cons]
theorem T_le_left (a b : List Int) (i j : Nat) : T a b i j ≤ a.length - i := by have := lcs_le_left (a.drop i) (b.drop j); unfold T; simpa using this
theorem T_le_right (a b : List Int) (i j : Nat) : T a b i j ≤ b.length - j := by have := lcs_le_right (a.drop i) (b.drop j); unfold T; simpa using this
theorem T_zero (a b : List Int) : T a b 0 0 = lcs a b := rfl
theorem T_down (a b : List Int) (i j : Nat) : T a b (i + 1) j ≤ T a b i j := by
  unfold T; refine lcs_mono ?_ (List.Sublist.refl _)
  rw [← List.drop_drop]; exact List.drop_sublist _ _
theorem T_right (a b : List Int) (i j : Nat) : T a b i (j + 1) ≤ T a b i j := by
  unfold T; refine lcs_mono (List.Sublist.refl _) ?_
  rw [← List.drop_drop]; exact List.drop_sublist _ _
/-- The whole table. -/
def behind (a b : List Int) : List (List Int) := seq (a.length + 1) fun i => seq (b.length + 1) fun j => (T a b i j : Int)

/-- Pairs that rise in both, from behind two places on, each of alike numbers. -/
def okPair (a b : List Int) (li lj : Int) (x : S49) : Bool := decide (0 ≤ x.f0) && decide (x.f0 < a.length) && decide (0 ≤ x.f1) && decide (x.f1 < b.length) && decide (rd a x.f0 = rd b x.f1) && decide (li < x.f0) && decide (lj < x.f1)
def good (a b : List Int) : Int → Int → List S49 → Bool
  | _, _, [] => true
  | li, lj, x :: l => okPair a b li lj x && good a b x.f0 x.f1 l
theorem okPair_iff (a b : List Int) (li lj : Int) (x : S49) : okPair a b li lj x = true ↔ 0 ≤ x.f0 ∧ x.f0 < a.length ∧ 0 ≤ x.f1 ∧ x.f1 < b.length ∧ rd a x.f0 = rd b x.f1 ∧ li < x.f0 ∧ lj < x.f1 := by
  simp [okPair, and_assoc]
theorem good_cons (a b : List Int) (li lj : Int) (x : S49) (l : List S49) : good a b li lj (x :: l) = true ↔ okPair a b li lj x = true ∧ good a b x.f0 x.f1 l = true := by simp [good]
theorem good_weaken {a b : List Int} {li lj li' lj' : Int} (hi : li' ≤ li) (hj : lj' ≤ lj) : ∀ {l : List S49}, good a b li lj l = true → good a b li' lj' l = true
  | [], _ => rfl
  | x :: l, h => by
    rw [good_cons, okPair_iff] at h ⊢
    obtain ⟨⟨h1, h2, h3, h4, h5, h6, h7⟩, h8⟩ := h
    exact ⟨⟨h1, h2, h3, h4, h5, by omega, by omega⟩, h8⟩
/-- A good list is no longer than what both have in common behind. -/
theorem good_len {a b : List Int} : ∀ (l : List S49) (i j : Nat), good a b ((i : Int) - 1) ((j : Int) - 1) l = true → l.length ≤ T a b i j
  | [], i, j, _ => Nat.zero_le _
  | x :: l, i, j, h => by
    rw [good_cons, okPair_iff] at h
    obtain ⟨⟨h1, h2, h3, h4, h5, h6, h7⟩, h8⟩ := h
    obtain ⟨p, hp⟩ := Int.eq_ofNat_of_zero_le h1
    obtain ⟨q, hq⟩ := Int.eq_ofNat_of_zero_le h3
    have ih := good_len l (p + 1) (q + 1) (by rw [hp, hq] at h8; simpa using h8)
    rw [hp, hq, rd_nat, rd_nat] at h5
    have hs := T_step (a := a) (b := b) (i := p) (j := q) (by omega) (by omega)
    rw [if_pos h5] at hs
    have e1 : T a b p q ≤ T a b i q := by
      unfold T; refine lcs_mono ?_ (List.Sublist.refl _)
      rw [show p = i + (p - i) by omega, ← List.drop_drop]; exact List.drop_sublist _ _
    have e2 : T a b i q ≤ T a b i j := by
      unfold T; refine lcs_mono (List.Sublist.refl _) ?_
      rw [show q = j + (q - j) by omega, ← List.drop_drop]; exact List.drop_sublist _ _
    simp only [List.length_cons]; omega
def prevI (l : List S49) (p : Nat) : Int := if p = 0 then -1 else (l.getD (p - 1) z49).f0
def prevJ (l : List S49) (p : Nat) : Int := if p = 0 then -1 else (l.getD (p - 1) z49).f1
theorem drop_getD_pair {xs : List S49} {i : Nat} (h : i < xs.length) : xs.drop i = xs.getD i z49 :: xs.drop (i + 1) := by
  rw [List.drop_eq_getElem_cons h]; simp [List.getD_eq_getElem?_getD, h]

def trow (a b : List Int) (p : Nat) : List Int := seq (b.length + 1) fun q => (T a b p q : Int)
theorem tattingref7_Behind_l1 (a b : List Int) (ha : a.length ≤ 100000) (hb : b.length ≤ 100000) (r : List (List Int)) (i : Nat) (hi : i < a.length) (F : Nat → List Int) (hF : ∀ p, i < p → p ≤ a.length → F p = trow a b p)
    (hr : ∀ G : Nat → List Int, (∀ p, i ≤ p → p ≤ a.length → G p = trow a b p) → Ev (fun k => tattingref7_Behind.l0 k a b (seq (a.length + 1) G) ((i : Int) - 1)) r) : ∀ (j : Nat) (g : Nat → Int), j ≤ b.length → (∀ q, j ≤ q → q ≤ b.length → g q = T a b i q) →
    Ev (fun k => tattingref7_Behind.l1 k a b (seq (a.length + 1) (upd F i (seq (b.length + 1) g))) i ((j : Int) - 1)) r := by
  intro j
  induction j with
  | zero =>
    intro g hj h2
    refine Ev.step (f := fun k => tattingref7_Behind.j2 k a b (seq (a.length + 1) (upd F i (seq (b.length + 1) g))) i (((0 : Nat) : Int) - 1) false) (fun k => ?_) ?_
    · have e : decide ((((0 : Nat) : Int) - 1) ≥ 0) = false := decide_eq_false (by omega)
      rw [tattingref7_Behind.l1, if_pos (by omega), e]
    · refine Ev.step (fun k => ?_) (hr (upd F i (seq (b.length + 1) g)) (fun p hp hp' => ?_))
      · rw [tattingref7_Behind.j2, ift, wr (by omega) (by omega)]
      · by_cases h : p = i
        · subst h; rw [upd_same]; exact seq_ext fun q hq => h2 q (by omega) (by omega)
        · rw [upd_ne _ _ h]; exact hF p (by omega) hp'
  | succ j ih =>
    intro g hj h2
    refine Ev.step (f := fun k => tattingref7_Behind.j2 k a b (seq (a.length + 1) (upd F i (seq (b.length + 1) g))) i (((j + 1 : Nat) : Int) - 1) true) (fun k => ?_) ?_
    · have e : decide ((((j + 1 : Nat) : Int) - 1) ≥ 0) = true := decide_eq_true (by omega)
      rw [tattingref7_Behind.l1, if_pos (by omega), e]
    have hF1 := hF (i + 1) (by omega) (by omega)
    have hu : upd F i (seq (b.length + 1) g) (i + 1) = trow a b (i + 1) := by rw [upd_ne _ _ (by omega)]; exact hF1
    have l0 := seq_length (a.length + 1) (upd F i (seq (b.length + 1) g))
    have l1 := seq_length (b.length + 1) g
    have l2 : (trow a b (i + 1)).length = b.length + 1 := seq_length _ _
    have e1 : rd a (i : Int) = a.getD i 0 := rfl
    have e2 : rd b ((((j + 1 : Nat) : Int)) - 1) = b.getD j 0 := rd_at (by omega)
    have e3 := rd_L1_seq (n := a.length + 1) (upd F i (seq (b.length + 1) g)) (i := (i : Int)) (p := i) (by omega) rfl
    rw [upd_same] at e3
    have e4 := rd_L1_seq (n := a.length + 1) (upd F i (seq (b.length + 1) g)) (i := (i : Int) + 1) (p := i + 1) (by omega) (by omega)
    rw [hu] at e4
    have e5 : rd (trow a b (i + 1)) ((((j + 1 : Nat) : Int)) - 1 + 1) = T a b (i + 1) (j + 1) := rd_seq (n := b.length + 1) (fun q => (T a b (i + 1) q : Int)) (p := j + 1) (by omega) (by omega)
    have e6 : rd (trow a b (i + 1)) ((((j + 1 : Nat) : Int)) - 1) = T a b (i + 1) j := rd_seq (n := b.length + 1) (fun q => (T a b (i + 1) q : Int)) (p := j) (by omega) (by omega)
    have e7 := rd_seq (n := b.length + 1) g (i := (((j + 1 : Nat) : Int)) - 1 + 1) (p := j + 1) (by omega) (by omega)
    have hs := T_step (a := a) (b := b) (i := i) (j := j) hi (by omega)
    have t1 := T_le_left a b (i + 1) (j + 1)
    have v3 := h2 (j + 1) (by omega) (by omega)
    have key : ∀ v : Int, v = T a b i j → Ev (fun k => tattingref7_Behind.l1 k a b ((seq (a.length + 1) (upd F i (seq (b.length + 1) g))).set (i : Int).toNat ((seq (b.length + 1) g).set ((((j + 1 : Nat) : Int)) - 1).toNat v)) i ((((j + 1 : Nat) : Int)) - 1 - 1)) r := by
      intro v hv
      rw [show ((((j + 1 : Nat) : Int)) - 1).toNat = j by omega, show ((((j + 1 : Nat) : Int)) - 1 - 1) = (j : Int) - 1 by omega, Int.toNat_natCast, seq_set, seq_set]
      have hg := ih (upd g j v) (by omega) (fun q hq hq' => by
        by_cases h : q = j
        · subst h; rw [upd_same, hv]
        · rw [upd_ne _ _ h]; exact h2 q (by omega) hq')
      have e : upd (upd F i (seq (b.length + 1) g)) i (seq (b.length + 1) (upd g j v)) = upd F i (seq (b.length + 1) (upd g j v)) := by
        funext p
        by_cases h : p = i
        · subst h; rw [upd_same, upd_same]
        · rw [upd_ne _ _ h, upd_ne _ _ h, upd_ne _ _ h]
      rw [e]; exact hg
    by_cases hab : a.getD i 0 = b.getD j 0
    · refine Ev.step (fun k => ?_) (key (T a b (i + 1) (j + 1) + 1) ?_)
      · simp (disch := omega) only [tattingref7_Behind.j2, itt, ifT, wr, if_pos, e1, e2, e3, e4, e5, l0, l1, l2, if_pos hab]
      · rw [hs, if_pos hab]; simp
    · refine Ev.step (fun k => ?_) (key (mx (T a b (i + 1) j) (g (j + 1))) ?_)
      · simp (disch := omega) only [tattingref7_Behind.j2, itt, ifT, wr, if_pos, e1, e2, e3, e4, e6, e7, l0, l1, l2]
        simp (disch := omega) only [if_neg hab, if_pos, wr]
      · rw [hs, if_neg hab, v3]; unfold mx; omega
theorem tattingref7_Behind_l0 (a b : List Int) (ha : a.length ≤ 100000) (hb : b.length ≤ 100000) : ∀ (i : Nat) (F : Nat → List Int), i ≤ a.length →
    (∀ p, i ≤ p → p ≤ a.length → F p = trow a b p) → Ev (fun k => tattingref7_Behind.l0 k a b (seq (a.length + 1) F) ((i : Int) - 1)) (behind a b) := by
  intro i
  induction i with
  | zero =>
    intro F hi h1
    refine Ev.step (f := fun _ => some _) (fun k => ?_) (Ev.now _)
    simp (disch := omega) only [tattingref7_Behind.l0, if_neg]
    congr 1
    exact seq_ext fun p hp => h1 p (by omega) (by omega)
  | succ i ih =>
    intro F hi h1
    refine Ev.step (fun k => ?_) (tattingref7_Behind_l1 a b ha hb (behind a b) i (by omega) F (fun p hp hp' => h1 p (by omega) hp') (fun G hG => ih G (by omega) hG) b.length (fun _ => 0) (by omega) (fun q hq hq' => ?_))
    · have l0 := seq_length (a.length + 1) F
      have e : ((b.length : Int) + 1).toNat = b.length + 1 := by omega
      simp (disch := omega) only [tattingref7_Behind.l0, wr, if_pos, e, l0, seq_const, seq_set]
      rw [show ((((i + 1 : Nat) : Int)) - 1) = (i : Int) by omega, Int.toNat_natCast]
    · rw [T_out_right (by omega)]; rfl
theorem tattingref7_Behind_eq (a b : List Int) (ha : a.length ≤ 100000) (hb : b.length ≤ 100000) : Ev (fun k => tattingref7_Behind.f k a b) (behind a b) := by
  have hrow : (seq (b.length + 1) fun _ => (0 : Int)) = trow a b a.length := seq_ext fun q hq => by rw [T_out_left (by omega)]; rfl
  have h0 := tattingref7_Behind_l0 a b ha hb a.length (upd (fun _ => []) a.length (seq (b.length + 1) fun _ => 0)) (by omega) (fun p hp hp' => by
    obtain rfl : p = a.length := by omega
    rw [upd_same, hrow])
  have h1 : Ev (fun k => tattingref7_Behind.l1 k a b (seq (a.length + 1) (upd (fun _ => []) a.length (seq (b.length + 1) fun _ => 0))) a.length ((b.length : Int) - 1)) (behind a b) := by
    refine Ev.step (f := fun k => tattingref7_Behind.j2 k a b (seq (a.length + 1) (upd (fun _ => []) a.length (seq (b.length + 1) fun _ => 0))) a.length ((b.length : Int) - 1) false) (fun k => ?_) (Ev.step (fun k => ?_) h0)
    · rw [tattingref7_Behind.l1, if_neg (by omega)]
    · rw [tattingref7_Behind.j2, ift, wr (by omega) (by omega)]
  have h2 : Ev (fun k => tattingref7_Behind.l0 k a b (seq (a.length + 1) (fun _ => [])) a.length) (behind a b) := by
    refine Ev.step (fun k => ?_) h1
    have l0 := seq_length (a.length + 1) (fun _ => ([] : List Int))
    have e : ((b.length : Int) + 1).toNat = b.length + 1 := by omega
    simp (disch := omega) only [tattingref7_Behind.l0, wr, if_pos, e, l0, seq_const, seq_set]
    rw [Int.toNat_natCast]
  refine Ev.congr (fun k => ?_) h2
  have e : ((a.length : Int) + 1).toNat = a.length + 1 := by omega
  unfold tattingref7_Behind.f
  simp (disch := omega) only [wr, if_pos, e, seq_const]

theorem tattingref7_Len_eq (a b : List Int) (ha : a.length ≤ 100000) (hb : b.length ≤ 100000) : Ev (fun k => tattingref7_Len.f k a b) (lcs a b : Int) := by
  unfold tattingref7_Len.f
  refine Ev.bind (tattingref7_Behind_eq a b ha hb) ?_
  refine Ev.congr (fun k => ?_) (Ev.now _)
  have l0 : (behind a b).length = a.length + 1 := seq_length _ _
  have e3 : rd_L1 (behind a b) 0 = trow a b 0 := rd_L1_seq (n := a.length + 1) _ (p := 0) (by omega) rfl
  have l1 : (trow a b 0).length = b.length + 1 := seq_length _ _
  have e4 : rd (trow a b 0) 0 = T a b 0 0 := rd_seq (n := b.length + 1) _ (p := 0) (by omega) rfl
  simp (disch := omega) only [if_pos, l0, e3, l1, e4]
  rfl

theorem tattingref7_Dist_eq (a b : List Int) (ha : a.length ≤ 100000) (hb : b.length ≤ 100000) : Ev (fun k => tattingref7_Dist.f k a b) (dist a b : Int) := by
  unfold tattingref7_Dist.f
  refine Ev.bind (tattingref7_Len_eq a b ha hb) (Ev.congr (fun k => ?_) (Ev.now _))
  have := dist_add a b
  have := lcs_le_left a b
  simp (disch := omega) only [wr]
  congr 1; omega

theorem tattingref15_Apart_eq (x y : Int) (hx : -1000000000 ≤ x ∧ x ≤ 1000000000) (hy : -1000000000 ≤ y ∧ y ≤ 1000000000) : tattingref15_Apart.f x y = some (apart x y) := by
  unfold tattingref15_Apart.f apart
  split
  · rw [wr (by omega) (by omega)]
  · rw [wr (by omega) (by omega)]
theorem tattingref15_Cells_l1 (n m : Nat) (hn : n ≤ 100000) (hm : m ≤ 100000) (k : Int) (r : Int) (i : Nat) (hi : i ≤ n) (c : Nat) (hc : c ≤ 100000000000)
    (hr : Ev (fun K => tattingref15_Cells.l0 K n m k ((c + sumN (m + 1) (fun j => if apart i j + apart ((n : Int) - i) ((m : Int) - j) ≤ k then 1 else 0) : Nat) : Int) ((i : Int) + 1)) r) : ∀ (d j : Nat), j + d = m + 1 →
    Ev (fun K => tattingref15_Cells.l1 K n m k ((c + sumN j (fun j => if apart i j + apart ((n : Int) - i) ((m : Int) - j) ≤ k then 1 else 0) : Nat) : Int) i j) r := by
  intro d
  induction d with
  | zero =>
    intro j hj
    obtain rfl : j = m + 1 := by omega
    refine Ev.step (fun K => ?_) hr
    rw [tattingref15_Cells.l1, if_neg (by omega), wr (by omega) (by omega)]
  | succ d ih =>
    intro j hj
    have h := ih (j + 1) (by omega)
    have hb : sumN j (fun j => if apart i j + apart ((n : Int) - i) ((m : Int) - j) ≤ k then 1 else 0) ≤ sumN j fun _ => 1 := sumN_le fun _ _ => by split <;> omega
    rw [sumN_const] at hb
    refine Ev.step (fun K => ?_) h
    have ha : 0 ≤ apart i j ∧ apart i j ≤ 1000000 := by unfold apart; split <;> omega
    have ha' : 0 ≤ apart ((n : Int) - i) ((m : Int) - j) ∧ apart ((n : Int) - i) ((m : Int) - j) ≤ 1000000 := by unfold apart; split <;> omega
    rw [tattingref15_Cells.l1, if_pos (by omega), tattingref15_Apart_eq _ _ (by omega) (by omega), bs, wr (x := (n : Int) - i) (by omega) (by omega), wr (x := (m : Int) - j) (by omega) (by omega), tattingref15_Apart_eq _ _ (by omega) (by omega), bs, wr (by omega) (by omega), wr (x := (j : Int) + 1) (by omega) (by omega)]
    simp only [sumN]
    by_cases hle : apart i j + apart ((n : Int) - i) ((m : Int) - j) ≤ k
    · rw [if_pos hle, if_pos hle, wr (by omega) (by omega)]
      congr 1
    · rw [if_neg hle, if_neg hle]
      congr 1
theorem tattingref15_Cells_l0 (n m : Nat) (hn : n ≤ 100000) (hm : m ≤ 100000) (k : Int) : ∀ (d i : Nat), i + d = n + 1 →
    Ev (fun K => tattingref15_Cells.l0 K n m k ((sumN i (fun i => sumN (m + 1) (fun j => if apart i j + apart ((n : Int) - i) ((m : Int) - j) ≤ k then 1 else 0)) : Nat) : Int) i) ((cells n m k : Nat) : Int) := by
  intro d
  induction d with
  | zero =>
    intro i hi
    obtain rfl : i = n + 1 := by omega
    refine Ev.step (f := fun _ => some _) (fun K => ?_) (Ev.now _)
    rw [tattingref15_Cells.l0, if_neg (by omega)]
    rfl
  | succ d ih =>
    intro i hi
    have h := ih (i + 1) (by omega)
    have hb : sumN i (fun i => sumN (m + 1) (fun j => if apart i j + apart ((n : Int) - i) ((m : Int) - j) ≤ k then 1 else 0)) ≤ sumN i fun _ => sumN (m + 1) fun _ => 1 := sumN_le fun _ _ => sumN_le fun _ _ => by split <;> omega
    rw [sumN_const, sumN_const] at hb
    have hb' : i * ((m + 1) * 1) ≤ 100000 * 100001 := Nat.mul_le_mul (by omega) (by omega)
    have := tattingref15_Cells_l1 n m hn hm k _ i (by omega) (sumN i (fun i => sumN (m + 1) (fun j => if apart i j + apart ((n : Int) - i) ((m : Int) - j) ≤ k then 1 else 0))) (by omega) (by simpa [sumN] using h) (m + 1) 0 (by omega)
    refine Ev.step (fun K => ?_) this
    rw [tattingref15_Cells.l0, if_pos (by omega)]
    simp [sumN]
theorem tattingref15_Cells_eq (n m : Nat) (hn : n ≤ 100000) (hm : m ≤ 100000) (k : Int) (hk : 0 ≤ k) : Ev (fun K => tattingref15_Cells.f K n m k) ((cells n m k : Nat) : Int) := by
  have := tattingref15_Cells_l0 n m hn hm k (n + 1) 0 (by omega)
  refine Ev.step (fun K => ?_) this
  unfold tattingref15_Cells.f
  rw [if_neg (by omega), if_neg (by omega), if_neg (by omega), if_neg (by omega), decide_eq_false (by omega), tattingref15_Cells.j0, ift]
  rfl
theorem tattingref15_Cells_out (n m k : Int) (h : ¬ (0 ≤ n ∧ n ≤ 1048576 ∧ 0 ≤ m ∧ m ≤ 1048576 ∧ 0 ≤ k)) (K : Nat) (hK : 0 < K) : tattingref15_Cells.f K n m k = some 0 := by
  obtain ⟨K, rfl⟩ : ∃ q, K = q + 1 := ⟨K - 1, by omega⟩
  unfold tattingref15_Cells.f
  simp only [tattingref15_Cells.j0, itt]
  by_cases h1 : n < 0
  · rw [if_pos h1]; simp
  rw [if_neg h1]
  by_cases h2 : m < 0
  · rw [if_pos h2]; simp
  rw [if_neg h2]
  by_cases h3 : n > 1048576
  · rw [if_pos h3]; simp
  rw [if_neg h3]
  by_cases h4 : m > 1048576
  · rw [if_pos h4]; simp
  rw [if_neg h4, decide_eq_true (by omega), itt]

def few (a : List Int) (n : Int) : List Int := a.map (· % n)
theorem few_length (a : List Int) (n : Int) : (few a n).length = a.length := by simp [few]
theorem tmod_few (x n : Int) (hn : 0 < n) : (if Int.tmod x n < 0 then Int.tmod x n + n else Int.tmod x n) = x % n := by
  rw [Int.tmod_eq_emod]
  have h1 := Int.emod_nonneg x (show n ≠ 0 by omega)
  have h2 := Int.emod_lt_of_pos x hn
  have h3 : (n.natAbs : Int) = n := by omega
  by_cases h : 0 ≤ x ∨ n ∣ x
  · rw [if_pos h]; rw [if_neg (by omega)]; omega
  · rw [if_neg h, h3]
    have h4 : x % n ≠ 0 := fun e => h (.inr (Int.dvd_of_emod_eq_zero e))
    rw [if_pos (by omega)]; omega
theorem few_take (a : List Int) (n : Int) (i : Nat) (h : i < a.length) : few (a.take (i + 1)) n = few (a.take i) n ++ [a.getD i 0 % n] := by
  rw [take_getD h]; simp [few]
theorem tattingref1_Few_l0 (a : List Int) (n : Int) (hn : 0 < n) (hn' : n ≤ 1000000) (ha : a.length ≤ 1000000) : ∀ (d k i : Nat), i + d = a.length → d < k →
    tattingref1_Few.l0 k a n (few (a.take i) n) i = some (few a n) := by
  intro d
  induction d with
  | zero =>
    intro k i hi hk
    obtain ⟨k, rfl⟩ : ∃ m, k = m + 1 := ⟨k - 1, by omega⟩
    simp (disch := omega) only [tattingref1_Few.l0, if_neg]
    rw [List.take_of_length_le (by omega)]
  | succ d ih =>
    intro k i hi hk
    obtain ⟨k, rfl⟩ : ∃ m, k = m + 1 := ⟨k - 1, by omega⟩
    have e1 : rd a (i : Int) = a.getD i 0 := rfl
    have hl : (few (a.take i) n).length ≤ a.length := by rw [few_length]; simp; omega
    have h1 := Int.emod_nonneg (a.getD i 0) (show n ≠ 0 by omega)
    have h2 := Int.emod_lt_of_pos (a.getD i 0) hn
    have h3 := tmod_few (a.getD i 0) n hn
    have h4 := ih k (i + 1) (by omega) (by omega)
    rw [few_take a n i (by omega)] at h4
    simp only [Int.natCast_add, Int.cast_ofNat_Int] at h4
    simp (disch := omega) only [tattingref1_Few.l0, if_pos, if_neg, e1, wr]
    split
    · rename_i hlt
      rw [if_pos hlt] at h3
      rw [h3]; exact h4
    · rename_i hlt
      rw [if_neg hlt] at h3
      rw [h3]; exact h4
theorem tattingref1_Few_eq (a : List Int) (n : Int) (hn : 0 < n) (hn' : n ≤ 1000000) (ha : a.length ≤ 1000000) (k : Nat) (hk : a.length < k) : tattingref1_Few.f k a n = some (few a n) := by
  have := tattingref1_Few_l0 a n hn hn' ha a.length k 0 (by omega) hk
  unfold tattingref1_Few.f
  simpa [few] using this

theorem tattingref7_Good_l0 (a b : List Int) (l : List S49) (ha : a.length ≤ 1000000) (hb : b.length ≤ 1000000) (hl : l.length ≤ 1000000) : ∀ (d k p : Nat), p + d = l.length → 2 * d < k →
    tattingref7_Good.l0 k a b l p = some (good a b (prevI l p) (prevJ l p) (l.drop p)) := by
  intro d
  induction d with
  | zero =>
    intro k p hp hk
    obtain ⟨k, rfl⟩ : ∃ m, k = m + 1 := ⟨k - 1, by omega⟩
    rw [tattingref7_Good.l0, if_neg (by omega), List.drop_eq_nil_of_le (by omega)]
    rfl
  | succ d ih =>
    intro k p hp hk
    obtain ⟨k, rfl⟩ : ∃ m, k = m + 1 + 1 := ⟨k - 2, by omega⟩
    have e1 : rd_T49 l (p : Int) = l.getD p z49 := rfl
    have h4 := ih k (p + 1) (by omega) (by omega)
    rw [drop_getD_pair (show p < l.length by omega)]
    have pi1 : prevI l (p + 1) = (l.getD p z49).f0 := by simp [prevI]
    have pj1 : prevJ l (p + 1) = (l.getD p z49).f1 := by simp [prevJ]
    rw [pi1, pj1] at h4
    have e2 : p ≠ 0 → rd_T49 l ((p : Int) - 1) = l.getD (p - 1) z49 := fun h => by
      unfold rd_T49; congr 1; omega
    have pi0 : p ≠ 0 → prevI l p = (l.getD (p - 1) z49).f0 := fun h => by simp [prevI, h]
    have pj0 : p ≠ 0 → prevJ l p = (l.getD (p - 1) z49).f1 := fun h => by simp [prevJ, h]
    have pi2 : p = 0 → prevI l p = -1 := fun h => by simp [prevI, h]
    have pj2 : p = 0 → prevJ l p = -1 := fun h => by simp [prevJ, h]
    generalize l.getD p z49 = x at *
    generalize l.getD (p - 1) z49 = y at *
    simp only [Int.natCast_add, Int.cast_ofNat_Int] at h4
    rw [tattingref7_Good.l0, if_pos (by omega), if_pos (by omega), e1]
    by_cases c1 : x.f0 < 0
    · rw [if_pos c1, tattingref7_Good.j1, itt]
      symm; congr 1; rw [← Bool.not_eq_true, good_cons, okPair_iff]; omega
    rw [if_neg c1]
    by_cases c2 : x.f0 ≥ a.length
    · rw [if_pos c2, tattingref7_Good.j1, itt]
      symm; congr 1; rw [← Bool.not_eq_true, good_cons, okPair_iff]; omega
    rw [if_neg c2]
    by_cases c3 : x.f1 < 0
    · rw [if_pos c3, tattingref7_Good.j1, itt]
      symm; congr 1; rw [← Bool.not_eq_true, good_cons, okPair_iff]; omega
    rw [if_neg c3]
    by_cases c4 : x.f1 ≥ b.length
    · rw [if_pos c4, tattingref7_Good.j1, itt]
      symm; congr 1; rw [← Bool.not_eq_true, good_cons, okPair_iff]; omega
    rw [if_neg c4, if_pos (by omega), if_pos (by omega), if_pos (by omega), if_pos (by omega), tattingref7_Good.j1]
    by_cases c5 : rd a x.f0 = rd b x.f1
    · rw [bne_eq_false_iff_eq.2 c5, ift, wr (by omega) (by omega), wr (by omega) (by omega)]
      by_cases c6 : p = 0
      · rw [if_neg (by omega), h4]
        congr 1
        rw [pi2 c6, pj2 c6, Bool.eq_iff_iff, good_cons, okPair_iff]
        exact ⟨fun h => ⟨⟨by omega, by omega, by omega, by omega, c5, by omega, by omega⟩, h⟩, fun h => h.2⟩
      · rw [if_pos (by omega), if_pos (by omega), if_pos (by omega), e2 c6, pi0 c6, pj0 c6]
        by_cases c7 : x.f0 ≤ y.f0
        · rw [if_pos c7]
          symm; congr 1; rw [← Bool.not_eq_true, good_cons, okPair_iff]; omega
        rw [if_neg c7]
        by_cases c8 : x.f1 ≤ y.f1
        · rw [if_pos c8]
          symm; congr 1; rw [← Bool.not_eq_true, good_cons, okPair_iff]; omega
        rw [if_neg c8, h4]
        congr 1
        rw [Bool.eq_iff_iff, good_cons, okPair_iff]
        exact ⟨fun h => ⟨⟨by omega, by omega, by omega, by omega, c5, by omega, by omega⟩, h⟩, fun h => h.2⟩
    · rw [bne_iff_ne.2 c5, itt]
      symm; congr 1; rw [← Bool.not_eq_true, good_cons, okPair_iff]; exact fun h => c5 h.1.2.2.2.2.1
theorem tattingref7_Good_eq (a b : List Int) (l : List S49) (ha : a.length ≤ 1000000) (hb : b.length ≤ 1000000) (hl : l.length ≤ 1000000) (k : Nat) (hk : 2 * l.length < k) :
    tattingref7_Good.f k a b l = some (good a b (-1) (-1) l) :=
  tattingref7_Good_l0 a b l ha hb hl l.length k 0 (by omega) hk

/-! slices.Reverse. -/
theorem rd_pair {xs : List S49} {i : Int} {p : Nat} (h : i = (p : Int)) : rd_T49 xs i = xs.getD p z49 := by subst h; rfl
def turnAt (n i : Nat) (F : Nat → S49) (p : Nat) : S49 := if p < i ∨ n < p + i + 1 then F (n - 1 - p) else F p
theorem api_Pair_l0 (F : Nat → S49) (n : Nat) (hn : n ≤ 100000000) : ∀ (d k i : Nat), i + d = n / 2 → d < k → api_Pair.l0 k (seq n (turnAt n i F)) i ((n : Int) - 1 - i) = some (seq n fun p => F (n - 1 - p)) := by
  intro d
  induction d with
  | zero =>
    intro k i hi hk
    obtain ⟨k, rfl⟩ : ∃ m, k = m + 1 := ⟨k - 1, by omega⟩
    rw [api_Pair.l0, if_neg (by omega)]
    congr 1
    refine seq_ext fun p hp => ?_
    unfold turnAt
    split
    · rfl
    · rw [show n - 1 - p = p by omega]
  | succ d ih =>
    intro k i hi hk
    obtain ⟨k, rfl⟩ : ∃ m, k = m + 1 := ⟨k - 1, by omega⟩
    have h4 := ih k (i + 1) (by omega) (by omega)
    have ej : (n : Int) - 1 - i = ((n - 1 - i : Nat) : Int) := by omega
    have e1 : rd_T49 (seq n (turnAt n i F)) ((n : Int) - 1 - i) = F (n - 1 - i) := by
      rw [rd_pair ej, seq_getD _ (by omega)]
      unfold turnAt
      rw [if_neg (by omega)]
    have e2 : rd_T49 (seq n (turnAt n i F)) (i : Int) = F i := by
      rw [rd_pair rfl, seq_getD _ (by omega)]
      unfold turnAt
      rw [if_neg (by omega)]
    have e3 : ((seq n (turnAt n i F)).set i (F (n - 1 - i))).set (n - 1 - i) (F i) = seq n (turnAt n (i + 1) F) := by
      rw [seq_set, seq_set]
      refine seq_ext fun p hp => ?_
      unfold upd turnAt
      by_cases h1 : p = n - 1 - i
      · rw [if_pos h1, if_pos (by omega), show n - 1 - p = i by omega]
      · rw [if_neg h1]
        by_cases h2 : p = i
        · rw [if_pos h2, if_pos (by omega), h2]
        · rw [if_neg h2]
          by_cases h3 : p < i ∨ n < p + i + 1
          · rw [if_pos h3, if_pos (by omega)]
          · rw [if_neg h3, if_neg (by omega)]
    rw [api_Pair.l0, if_pos (by omega), if_pos (by omega), if_pos (by rw [seq_length]; omega), if_pos (by omega), if_pos (by rw [seq_length]; omega), e1, e2, wr (by omega) (by omega), wr (by omega) (by omega), Int.toNat_natCast, show ((n : Int) - 1 - i).toNat = n - 1 - i by omega]
    show api_Pair.l0 k (((seq n (turnAt n i F)).set i (F (n - 1 - i))).set (n - 1 - i) (F i)) _ _ = _
    rw [e3, ← h4]
    congr 1
    omega
theorem api_Pair_eq (l : List S49) (hl : l.length ≤ 100000000) (k : Nat) (hk : l.length < k) : api_Pair.f k l = some l.reverse := by
  have h := api_Pair_l0 (fun i => l.getD i z49) l.length hl (l.length / 2) k 0 (by omega) (by omega)
  unfold api_Pair.f
  rw [wr (by omega) (by omega)]
  have e1 : seq l.length (turnAt l.length 0 fun i => l.getD i z49) = l := by
    refine Eq.trans (seq_ext fun p hp => ?_) (seq_of l z49).symm
    unfold turnAt
    rw [if_neg (by omega)]
  have e2 : (seq l.length fun p => l.getD (l.length - 1 - p) z49) = l.reverse := by
    refine Eq.trans ?_ (seq_of l.reverse z49).symm
    rw [List.length_reverse]
    refine seq_ext fun p hp => ?_
    rw [List.getD_eq_getElem?_getD, List.getD_eq_getElem?_getD, List.getElem?_reverse hp]
  rw [e1, e2] at h
  rw [← h]
  congr 1
  omega

theorem sum_room (f : Nat → Nat) (c : Nat) (hf : ∀ i, f i ≤ c) : ∀ n, sumN n f ≤ n * c
  | 0 => by simp [sumN]
  | n + 1 => by
    have h1 := sum_room f c hf n
    have h2 := hf n
    rw [Nat.succ_mul]
    simp only [sumN]
    omega
theorem cells_room (n m : Nat) (k : Int) : cells n m k ≤ (n + 1) * (m + 1) := by
  unfold cells
  refine sum_room _ _ (fun i => ?_) _
  have h := sum_room (fun j => if apart i j + apart ((n : Int) - i) ((m : Int) - j) ≤ k then 1 else 0) 1 (fun j => by show (if _ then 1 else 0) ≤ 1; split <;> omega) (m + 1)
  omega
/-! band.Run: the rows, the way back, the bounds that are tried. -/
theorem above_all {a b : List Int} {k : Int} (hk : max ((a.length : Int) - b.length) ((b.length : Int) - a.length) ≤ k) {p : Nat} (hp : p ≤ a.length) {f : Int} {l : List Int} (h : Above a b k (p + 1) f l) :
    (∀ j : Nat, j ≤ b.length → D a b p j ≤ rowAt f l j) ∧ (∀ j : Nat, j ≤ b.length → rel a b k p j → rowAt f l j = D a b p j) := by
  rcases h with ⟨h, _⟩ | ⟨q, hq, c, hc, hr⟩
  · omega
  · obtain rfl : q = p := by omega
    refine ⟨hr.low, fun j hj hrel => hr.eq j ?_ hj hrel⟩
    have := rel_in hk (by omega) hj hrel
    omega
theorem above_room {a b : List Int} (ha : a.length ≤ 100000) (hb : b.length ≤ 100000) {k : Int} (hk : max ((a.length : Int) - b.length) ((b.length : Int) - a.length) ≤ k) {p : Nat} (hp : p ≤ a.length) {f : Int} {l : List Int} (h : Above a b k (p + 1) f l) : 0 ≤ f ∧ f ≤ 200000 ∧ l.length ≤ 200000 := by
  rcases h with ⟨h, _⟩ | ⟨q, hq, c, hc, hr⟩
  · omega
  · have := hr.first
    have := hr.len
    have : -(b.length : Int) ≤ bandLo a.length b.length k := by unfold bandLo; omega
    have : 0 ≤ bandHi a.length b.length k := by unfold bandHi; omega
    omega
theorem H_zero_of {a b : List Int} {i j : Nat} (h : i = 0 ∨ j = 0) : H a b i j = 0 := by
  rcases h with rfl | rfl
  · exact H_zero_left _ _ _
  · exact H_zero_right _ _ _
theorem band_back_l0 (a b : List Int) (ha : a.length ≤ 100000) (hb : b.length ≤ 100000) (k : Int) (hk : max ((a.length : Int) - b.length) ((b.length : Int) - a.length) ≤ k) (rows : List S43) (hrows : rows.length = a.length + 1)
    (hR : ∀ i, i ≤ a.length → Above a b k (i + 1) (rows.getD i z43).f0 (rows.getD i z43).f1) :
    ∀ (d i j K : Nat) (l : List S49), i + j ≤ d → i ≤ a.length → j ≤ b.length → rel a b k i j → good a b ((i : Int) - 1) ((j : Int) - 1) l.reverse = true → l.length + H a b i j = lcs a b → 2 * d + 200010 < K →
      ∃ r, band_back.l0 K a b rows l i j = some r ∧ good a b (-1) (-1) r = true ∧ r.length = lcs a b := by
  have hlc := lcs_le_left a b
  have hout : ∀ (i j K : Nat) (l : List S49), (i = 0 ∨ j = 0) → good a b ((i : Int) - 1) ((j : Int) - 1) l.reverse = true → l.length + H a b i j = lcs a b → 200010 < K → ∃ r, band_back.l0 K a b rows l i j = some r ∧ good a b (-1) (-1) r = true ∧ r.length = lcs a b := by
    intro i j K l hz hg hl hK
    obtain ⟨K, rfl⟩ : ∃ m, K = m + 2 := ⟨K - 2, by omega⟩
    rw [H_zero_of hz] at hl
    refine ⟨l.reverse, ?_, good_weaken (by omega) (by omega) hg, by simp; omega⟩
    have e : band_back.l0 (K + 2) a b rows l i j = band_back.j1 (K + 1) a b rows l i j false := by
      rw [band_back.l0]
      rcases hz with rfl | rfl
      · rw [if_neg (by omega)]
      · by_cases h : ((i : Int) > 0)
        · rw [if_pos h]; rfl
        · rw [if_neg h]
    rw [e, band_back.j1, ift, api_Pair_eq l (by omega) K (by omega), bs]
  intro d
  induction d with
  | zero =>
    intro i j K l hd hi hj hrel hg hl hK
    exact hout i j K l (by omega) hg hl (by omega)
  | succ d ih =>
    intro i j K l hd hi hj hrel hg hl hK
    by_cases hz : i = 0 ∨ j = 0
    · exact hout i j K l hz hg hl (by omega)
    · obtain ⟨p, rfl⟩ : ∃ p, i = p + 1 := ⟨i - 1, by omega⟩
      obtain ⟨q, rfl⟩ : ∃ q, j = q + 1 := ⟨j - 1, by omega⟩
      obtain ⟨K, rfl⟩ : ∃ m, K = m + 2 := ⟨K - 2, by omega⟩
      have w1 : wrap64 (((p + 1 : Nat) : Int) - 1) = (p : Int) := by rw [wr (by omega) (by omega)]; omega
      have w2 : wrap64 (((q + 1 : Nat) : Int) - 1) = (q : Int) := by rw [wr (by omega) (by omega)]; omega
      have hd1 := D_down a b p (q + 1)
      have hd2 := D_right a b (p + 1) q
      have e0 : band_back.l0 (K + 2) a b rows l (p + 1 : Nat) (q + 1 : Nat) = band_back.j1 (K + 1) a b rows l (p + 1 : Nat) (q + 1 : Nat) true := by
        rw [band_back.l0, if_pos (by omega), decide_eq_true (by omega)]
      rw [e0, band_back.j1, itt, w1, w2, if_pos (by omega), if_pos (by omega), if_pos (by omega), if_pos (by omega), rd_nat, rd_nat]
      by_cases he : a.getD p 0 = b.getD q 0
      · rw [if_pos he, if_pos (by omega)]
        have hs := H_step (a := a) (b := b) (i := p) (j := q) (by omega) (by omega)
        rw [if_pos he] at hs
        have hds := D_same (a := a) (b := b) (i := p) (j := q) (by omega) (by omega) he
        refine ih p q K _ (by omega) (by omega) (by omega) (by unfold rel at hrel ⊢; omega) ?_ (by simp; omega) (by omega)
        rw [List.reverse_append, List.reverse_singleton, List.singleton_append, good_cons]
        refine ⟨(okPair_iff _ _ _ _ _).2 ⟨Int.natCast_nonneg p, by show (p : Int) < _; omega, Int.natCast_nonneg q, by show (q : Int) < _; omega, he, by show (p : Int) - 1 < p; omega, by show (q : Int) - 1 < q; omega⟩, ?_⟩
        show good a b (p : Int) (q : Int) l.reverse = true
        simpa using hg
      · have hdo := D_other (a := a) (b := b) (i := p) (j := q) (by omega) (by omega) he
        obtain ⟨u1, u2⟩ := above_all hk (p := p) (by omega) (hR p (by omega))
        obtain ⟨v1, v2⟩ := above_all hk (p := p + 1) (by omega) (hR (p + 1) (by omega))
        obtain ⟨b1, b2, b3⟩ := above_room ha hb hk (p := p) (by omega) (hR p (by omega))
        obtain ⟨b4, b5, b6⟩ := above_room ha hb hk (p := p + 1) (by omega) (hR (p + 1) (by omega))
        have u1 := u1 (q + 1) (by omega)
        have u2 := u2 (q + 1) (by omega)
        have v1 := v1 q (by omega)
        have v2 := v2 q (by omega)
        have r1 : rd_T43 rows (p : Int) = rows.getD p z43 := rfl
        have r2 : rd_T43 rows ((p + 1 : Nat) : Int) = rows.getD (p + 1) z43 := rfl
        rw [if_neg he, if_pos (by omega), r1, r2, band_line_at_eq _ _ _ ⟨b1, by omega⟩ (by omega) (by omega), bs, if_pos (by omega), if_pos (by omega), band_line_at_eq _ _ _ ⟨b4, by omega⟩ (by omega) (by omega), bs]
        generalize rowAt (rows.getD p z43).f0 (rows.getD p z43).f1 ((q + 1 : Nat) : Int) = u at u1 u2 ⊢
        generalize rowAt (rows.getD (p + 1) z43).f0 (rows.getD (p + 1) z43).f1 (q : Int) = v at v1 v2 ⊢
        have hu : D a b p (q + 1) = D a b (p + 1) (q + 1) - 1 → u = D a b p (q + 1) := fun e => u2 (by unfold rel at hrel ⊢; omega)
        have hv : D a b (p + 1) q = D a b (p + 1) (q + 1) - 1 → v = D a b (p + 1) q := fun e => v2 (by unfold rel at hrel ⊢; omega)
        have hH : ∀ x y, D a b x y = (x : Int) + y - 2 * H a b x y := fun _ _ => rfl
        have hp1 := hH p (q + 1)
        have hp2 := hH (p + 1) q
        have hp3 := hH (p + 1) (q + 1)
        by_cases huv : u ≤ v
        · rw [if_pos huv]
          have hD : D a b p (q + 1) = D a b (p + 1) (q + 1) - 1 := by omega
          exact ih p (q + 1) K l (by omega) (by omega) (by omega) (by unfold rel at hrel ⊢; omega) (good_weaken (by omega) (by omega) hg) (by omega) (by omega)
        · rw [if_neg huv]
          have hD : D a b (p + 1) q = D a b (p + 1) (q + 1) - 1 := by omega
          exact ih (p + 1) q K l (by omega) (by omega) (by omega) (by unfold rel at hrel ⊢; omega) (good_weaken (by omega) (by omega) hg) (by omega) (by omega)
theorem band_back_eq (a b : List Int) (ha : a.length ≤ 100000) (hb : b.length ≤ 100000) (k : Int) (hk : max ((a.length : Int) - b.length) ((b.length : Int) - a.length) ≤ k) (rows : List S43) (hrows : rows.length = a.length + 1)
    (hR : ∀ i, i ≤ a.length → Above a b k (i + 1) (rows.getD i z43).f0 (rows.getD i z43).f1) (hd : (dist a b : Int) ≤ k) :
    ∃ r, good a b (-1) (-1) r = true ∧ r.length = lcs a b ∧ ∀ K, 1000000 < K → band_back.f K a b rows = some r := by
  obtain ⟨r, h1, h2, h3⟩ := band_back_l0 a b ha hb k hk rows hrows hR (a.length + b.length) a.length b.length 1000000 [] (by omega) (Nat.le_refl _) (Nat.le_refl _) (by unfold rel; rw [D_all]; omega) rfl (by rw [H_all]; simp) (by omega)
  exact ⟨r, h2, h3, fun K hK => at_rounds (band_back.mono a b rows) (k := 1000000) (by omega) h1⟩
/-- All rows. -/
theorem band_Run_g (a b : List Int) (ha : a.length ≤ 100000) (hb : b.length ≤ 100000) (k : Int) (hk : max ((a.length : Int) - b.length) ((b.length : Int) - a.length) ≤ k) : ∀ n, n ≤ a.length + 1 →
    ∃ (rows : List S43) (last : S43), rows.length = n ∧ Above a b k n last.f0 last.f1 ∧ (∀ i, i < n → Above a b k (i + 1) (rows.getD i z43).f0 (rows.getD i z43).f1) ∧ Ev (fun K => band_Run.g K a b (bandLo a.length b.length k) (bandHi a.length b.length k) n) (rows, last)
  | 0, _ => ⟨[], z43, rfl, .inl ⟨rfl, rfl, rfl⟩, fun i hi => absurd hi (by omega), Ev.now _⟩
  | n + 1, hn => by
    obtain ⟨rows, last, h1, h2, h3, h4⟩ := band_Run_g a b ha hb k hk n (by omega)
    obtain ⟨f', l', h5, h6⟩ := band_next_eq a b ha hb k hk n (by omega) last.f0 last.f1 h2
    refine ⟨rows ++ [⟨f', l'⟩], ⟨f', l'⟩, by simp [h1], h5, fun i hi => ?_, ?_⟩
    · by_cases he : i = n
      · subst he
        have e : (rows ++ [(⟨f', l'⟩ : S43)]).getD i z43 = ⟨f', l'⟩ := by simp [List.getD_eq_getElem?_getD, ← h1]
        rw [e]
        exact h5
      · have e : (rows ++ [(⟨f', l'⟩ : S43)]).getD i z43 = rows.getD i z43 := by
          rw [List.getD_eq_getElem?_getD, List.getD_eq_getElem?_getD, List.getElem?_append_left (by omega)]
        rw [e]
        exact h3 i (by omega)
    · refine Ev.congr (f := fun K => (band_Run.g K a b (bandLo a.length b.length k) (bandHi a.length b.length k) n).bind fun p => (band_next.f K a b (n : Int) (bandLo a.length b.length k) (bandHi a.length b.length k) p.2.f0 p.2.f1).bind fun r => some (p.1 ++ [⟨r.1, r.2⟩], ⟨r.1, r.2⟩)) (fun K => rfl) ?_
      exact Ev.bind h4 (Ev.bind h6 (Ev.now _))
theorem rowAt_end {a b : List Int} {k : Int} (hk : max ((a.length : Int) - b.length) ((b.length : Int) - a.length) ≤ k) {f : Int} {l : List Int} (h : Above a b k (a.length + 1) f l) : ((dist a b : Int) ≤ k → rowAt f l b.length = dist a b) ∧ (dist a b : Int) ≤ rowAt f l b.length := by
  obtain ⟨h1, h2⟩ := above_all hk (Nat.le_refl _) h
  have h1 := h1 b.length (Nat.le_refl _)
  have h2 := h2 b.length (Nat.le_refl _)
  rw [D_all] at h1 h2
  refine ⟨fun hd => h2 ?_, h1⟩
  unfold rel
  rw [D_all]
  omega
theorem band_Run_l0 (a b : List Int) (ha : a.length ≤ 100000) (hb : b.length ≤ 100000) : ∀ (N : Nat) (kk st : Int), max ((a.length : Int) - b.length) ((b.length : Int) - a.length) ≤ kk → kk ≤ 1000000 → (dist a b : Int) - kk ≤ N →
    ∃ (r : List S49) (S : Int), good a b (-1) (-1) r = true ∧ r.length = lcs a b ∧ Ev (fun K => band_Run.l0 K a b st kk) (r, S) ∧ Ev (fun K => tattingref15_Bands.l0 K (a.length : Int) (b.length : Int) (dist a b : Int) kk (wrap64 (st + ((cells a.length b.length kk : Nat) : Int)))) S := by
  have hdl : (dist a b : Int) ≤ (a.length : Int) + b.length := by have := D_ge a b a.length b.length; rw [D_all] at this; omega
  intro N
  induction N with
  | zero =>
    intro kk st hk hkk hN
    obtain ⟨rows, last, g1, g2, g3, K1, g4⟩ := band_Run_g a b ha hb kk hk (a.length + 1) (Nat.le_refl _)
    obtain ⟨r, r1, r2, r3⟩ := band_back_eq a b ha hb kk hk rows g1 (fun i hi => g3 i (by omega)) (by omega)
    obtain ⟨b1, b2, b3⟩ := above_room ha hb hk (Nat.le_refl _) g2
    obtain ⟨e1, e2⟩ := rowAt_end hk g2
    have hline := band_line_at_eq last.f0 last.f1 (b.length : Int) ⟨b1, by omega⟩ (by omega) (by omega)
    refine ⟨r, wrap64 (st + ((cells a.length b.length kk : Nat) : Int)), r1, r2, ⟨K1 + 1000002, fun K hK => ?_⟩, ⟨1, fun K hK => ?_⟩⟩
    · obtain ⟨K, rfl⟩ : ∃ m, K = m + 1 := ⟨K - 1, by omega⟩
      have h4 : band_Run.g K a b _ _ _ = some _ := g4 K (by omega)
      show band_Run.l0 (K + 1) a b st kk = _
      rw [band_Run.l0, band_Cells_eq a.length b.length kk ha hb (by omega) (by omega) K (by omega), bs, band_edges_some a.length b.length kk (by omega) (by omega) (by omega) hk, bs, if_pos (by omega), h4, bs, hline, bs, e1 (by omega), if_pos (by omega), r3 K (by omega), bs]
    · obtain ⟨K, rfl⟩ : ∃ m, K = m + 1 := ⟨K - 1, by omega⟩
      show tattingref15_Bands.l0 (K + 1) _ _ _ _ _ = _
      rw [tattingref15_Bands.l0, if_neg (by omega)]
  | succ N ih =>
    intro kk st hk hkk hN
    by_cases hd : (dist a b : Int) ≤ kk
    · exact (by
        obtain ⟨rows, last, g1, g2, g3, K1, g4⟩ := band_Run_g a b ha hb kk hk (a.length + 1) (Nat.le_refl _)
        obtain ⟨r, r1, r2, r3⟩ := band_back_eq a b ha hb kk hk rows g1 (fun i hi => g3 i (by omega)) (by omega)
        obtain ⟨b1, b2, b3⟩ := above_room ha hb hk (Nat.le_refl _) g2
        obtain ⟨e1, e2⟩ := rowAt_end hk g2
        have hline := band_line_at_eq last.f0 last.f1 (b.length : Int) ⟨b1, by omega⟩ (by omega) (by omega)
        refine ⟨r, wrap64 (st + ((cells a.length b.length kk : Nat) : Int)), r1, r2, ⟨K1 + 1000002, fun K hK => ?_⟩, ⟨1, fun K hK => ?_⟩⟩
        · obtain ⟨K, rfl⟩ : ∃ m, K = m + 1 := ⟨K - 1, by omega⟩
          have h4 : band_Run.g K a b _ _ _ = some _ := g4 K (by omega)
          show band_Run.l0 (K + 1) a b st kk = _
          rw [band_Run.l0, band_Cells_eq a.length b.length kk ha hb (by omega) (by omega) K (by omega), bs, band_edges_some a.length b.length kk (by omega) (by omega) (by omega) hk, bs, if_pos (by omega), h4, bs, hline, bs, e1 (by omega), if_pos (by omega), r3 K (by omega), bs]
        · obtain ⟨K, rfl⟩ : ∃ m, K = m + 1 := ⟨K - 1, by omega⟩
          show tattingref15_Bands.l0 (K + 1) _ _ _ _ _ = _
          rw [tattingref15_Bands.l0, if_neg (by omega)])
    · obtain ⟨rows, last, g1, g2, g3, K1, g4⟩ := band_Run_g a b ha hb kk hk (a.length + 1) (Nat.le_refl _)
      obtain ⟨b1, b2, b3⟩ := above_room ha hb hk (Nat.le_refl _) g2
      obtain ⟨e1, e2⟩ := rowAt_end hk g2
      have hline := band_line_at_eq last.f0 last.f1 (b.length : Int) ⟨b1, by omega⟩ (by omega) (by omega)
      obtain ⟨r, S, i1, i2, ⟨K2, i3⟩, ⟨K3, i4⟩⟩ := ih (2 * kk + 1) (wrap64 (st + ((cells a.length b.length kk : Nat) : Int))) (by omega) (by omega) (by omega)
      obtain ⟨K4, i5⟩ := tattingref15_Cells_eq a.length b.length ha hb (2 * kk + 1) (by omega)
      have w1 : wrap64 (wrap64 (2 * kk) + 1) = 2 * kk + 1 := by rw [wr (x := 2 * kk) (by omega) (by omega), wr (by omega) (by omega)]
      refine ⟨r, S, i1, i2, ⟨K1 + K2 + 1000002, fun K hK => ?_⟩, ⟨K3 + K4 + 2, fun K hK => ?_⟩⟩
      · obtain ⟨K, rfl⟩ : ∃ m, K = m + 1 := ⟨K - 1, by omega⟩
        have h4 : band_Run.g K a b _ _ _ = some _ := g4 K (by omega)
        have h5 : band_Run.l0 K a b _ _ = some _ := i3 K (by omega)
        show band_Run.l0 (K + 1) a b st kk = _
        rw [band_Run.l0, band_Cells_eq a.length b.length kk ha hb (by omega) (by omega) K (by omega), bs, band_edges_some a.length b.length kk (by omega) (by omega) (by omega) hk, bs, if_pos (by omega), h4, bs, hline, bs, if_neg (by omega), w1, h5]
      · obtain ⟨K, rfl⟩ : ∃ m, K = m + 1 := ⟨K - 1, by omega⟩
        have h6 : tattingref15_Cells.f K _ _ _ = some _ := i5 K (by omega)
        have h7 : tattingref15_Bands.l0 K _ _ _ _ _ = some _ := i4 K (by omega)
        show tattingref15_Bands.l0 (K + 1) _ _ _ _ _ = _
        rw [tattingref15_Bands.l0, if_pos (by omega), w1, h6, bs, h7]
theorem band_Run_eq (a b : List Int) (ha : a.length ≤ 100000) (hb : b.length ≤ 100000) :
    ∃ (r : List S49) (S : Int), good a b (-1) (-1) r = true ∧ r.length = lcs a b ∧ Ev (fun K => band_Run.f K a b) (r, S) ∧ Ev (fun K => tattingref15_Bands.f K (a.length : Int) (b.length : Int) (dist a b : Int)) S := by
  have hdl : (dist a b : Int) ≤ (a.length : Int) + b.length := by have := D_ge a b a.length b.length; rw [D_all] at this; omega
  obtain ⟨r, S, i1, i2, i3, K2, i4⟩ := band_Run_l0 a b ha hb (a.length + b.length) (max ((a.length : Int) - b.length) ((b.length : Int) - a.length)) 0 (Int.le_refl _) (by omega) (by omega)
  obtain ⟨K3, i5⟩ := tattingref15_Cells_eq a.length b.length ha hb (max ((a.length : Int) - b.length) ((b.length : Int) - a.length)) (by omega)
  have hap : apart a.length b.length = max ((a.length : Int) - b.length) ((b.length : Int) - a.length) := by unfold apart; omega
  have hc := cells_room a.length b.length (max ((a.length : Int) - b.length) ((b.length : Int) - a.length))
  have hc2 : (a.length + 1) * (b.length + 1) ≤ 100001 * 100001 := Nat.mul_le_mul (by omega) (by omega)
  refine ⟨r, S, i1, i2, Ev.congr (fun K => ?_) i3, ⟨K2 + K3, fun K hK => ?_⟩⟩
  · unfold band_Run.f
    rw [mx_max, wr (by omega) (by omega), wr (by omega) (by omega)]
  · have h6 : tattingref15_Cells.f K _ _ _ = some _ := i5 K (by omega)
    have h7 : tattingref15_Bands.l0 K _ _ _ _ _ = some _ := i4 K (by omega)
    rw [Int.zero_add, wr (by omega) (by omega)] at h7
    show tattingref15_Bands.f K _ _ _ = _
    unfold tattingref15_Bands.f
    rw [tattingref15_Apart_eq _ _ (by omega) (by omega), bs, hap, h6, bs, h7]

theorem awake_ev : ∃ K, tattinglaw19_awake.f K = some true := ⟨400, by decide +kernel⟩
theorem law_BandRuns : tattinglaw19_BandRuns.Pure := by
  intro a b _ _ _ _ _ _
  have haw : Ev tattinglaw19_awake.f true := by
    obtain ⟨K, h⟩ := awake_ev
    exact Ev.of tattinglaw19_awake.mono h
  refine Ev.rounds (g := fun K => tattinglaw19_BandRuns.f K a b) ?_
  unfold tattinglaw19_BandRuns.f
  refine Ev.bind haw ?_
  simp only [itt, ifT]
  by_cases ha : (a.length : Int) > 30
  · refine Ev.step (f := fun _ => some true) (fun K => ?_) (Ev.now _)
    rw [if_pos ha, tattinglaw19_BandRuns.j0, itt]
  by_cases hb : (b.length : Int) > 30
  · refine Ev.step (f := fun _ => some true) (fun K => ?_) (Ev.now _)
    rw [if_neg ha, decide_eq_true hb, tattinglaw19_BandRuns.j0, itt]
  simp only [if_neg ha, decide_eq_false hb]
  have la := few_length a 4
  have lb := few_length b 4
  have fa := fun k hk => tattingref1_Few_eq a 4 (by omega) (by omega) (by omega) k hk
  have fb := fun k hk => tattingref1_Few_eq b 4 (by omega) (by omega) (by omega) k hk
  generalize few a 4 = x at *
  generalize few b 4 = y at *
  obtain ⟨K1, h1⟩ := tattingref7_Dist_eq x y (by omega) (by omega)
  obtain ⟨K2, h2⟩ := tattingref7_Len_eq x y (by omega) (by omega)
  obtain ⟨r, S, g1, g2, ⟨K3, h3⟩, ⟨K4, h4⟩⟩ := band_Run_eq x y (by omega) (by omega)
  have l1 := lcs_le_left x y
  refine ⟨1000 + K1 + K2 + K3 + K4, fun K hK => ?_⟩
  obtain ⟨K, rfl⟩ : ∃ m, K = m + 1 := ⟨K - 1, by omega⟩
  have e1 : tattingref7_Dist.f K x y = some _ := h1 K (by omega)
  have e2 : tattingref7_Len.f K x y = some _ := h2 K (by omega)
  have e3 : band_Run.f K x y = some _ := h3 K (by omega)
  have e4 : tattingref15_Bands.f K _ _ _ = some _ := h4 K (by omega)
  have e5 := tattingref7_Good_eq x y r (by omega) (by omega) (by omega) K (by omega)
  show tattinglaw19_BandRuns.j0 (K + 1) a b false = some true
  rw [tattinglaw19_BandRuns.j0, ift, fa K (by omega), bs, fb K (by omega), bs, e3, bs, e1, bs, e5, bs, g1, itt, e2, bs, g2, if_pos rfl, e4, bs, beq_self_eq_true]

theorem BandRuns : tattinglaw19_BandRuns.Pure := law_BandRuns

end Go.Proofs.Ytcjngbpmdmfbdaa.Pure
namespace Go.Proofs.Ytcjngbpmdmfbdaa.PrintWords
/-- The row's word under the name by which the row calls it. -/
abbrev sized_ints := @Go.Proofs.YtcjngbpmdmfbdaaW.PrintWords.sized_ints
end Go.Proofs.Ytcjngbpmdmfbdaa.PrintWords
