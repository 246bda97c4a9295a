/- As far as it is alike and no further: the law SnakeEnds holds, with no condition. -/
import Derived.Test.YtnadeebbnnbpgaaPSnakeEndsx2
import Derived.Test.YtnadeebbnnbpgaaWSized
namespace Go.Proofs.Ytnadeebbnnbpgaa.Pure
open Go.RowKit Go.Proofs.Ytnadeebbnnbpgaa.PSnakeEnds Go.Proofs.YtnadeebbnnbpgaaW.PrintWords Go.Proofs.YtnadeebbnnbpgaaW.PrintLast Go.Proofs.YtnadeebbnnbpgaaW.PrintMore
set_option linter.unusedVariables false
set_option linter.unusedSimpArgs false

/-! Words for the pure side: whole numbers that do not wrap, reads of lists. -/
theorem wr {x : Int} (h : -9223372036854775808 ≤ x) (h' : x < 9223372036854775808) : wrap64 x = x := by unfold wrap64; omega
theorem rd_nat (xs : List Int) (n : Nat) : rd xs (n : Int) = xs.getD n 0 := rfl
theorem rd_at {xs : List Int} {i : Int} {n : Nat} (h : i = (n : Int)) : rd xs i = xs.getD n 0 := by subst h; rfl
theorem drop_getD {xs : List Int} {i : Nat} (h : i < xs.length) : xs.drop i = xs.getD i 0 :: xs.drop (i + 1) := by
  rw [List.drop_eq_getElem_cons h]; simp [List.getD_eq_getElem?_getD, h]
theorem take_getD {xs : List Int} {i : Nat} (h : i < xs.length) : xs.take (i + 1) = xs.take i ++ [xs.getD i 0] := by
  rw [List.take_succ_eq_append_getElem h]; simp [List.getD_eq_getElem?_getD, h]

theorem lz_bind {α β : Type} {a a' : Option α} {f : α → Option β} (h : a = a') : a.bind f = a'.bind f := by rw [h]
theorem lz_ite {α : Type} {c c' : Prop} [s : Decidable c] [s' : Decidable c'] {t e : α} (h : c = c') : ite c t e = ite c' t e := by
  subst h; rw [Subsingleton.elim s s']
attribute [local congr] lz_bind lz_ite
theorem bs {α β : Type} (a : α) (f : α → Option β) : (some a).bind f = f a := by simp
theorem itt {α : Type} (t e : α) : (if (true = true) then t else e) = t := by simp
theorem ift {α : Type} (t e : α) : (if (false = true) then t else e) = e := by simp
theorem ifT {α : Type} (t e : α) : (if True then t else e) = t := by simp
theorem ifF {α : Type} (t e : α) : (if False then t else e) = e := by simp

theorem u8_wf {x : Int} (h : (Lit.int .u8 x).wf = true) : 0 ≤ x ∧ x < 256 := by
  have h' := h
  simp only [Lit.wf, Bool.and_eq_true, decide_eq_true_eq] at h'
  have e1 : IntKind.u8.min = 0 := by rfl
  have e2 : IntKind.u8.max = 255 := by rfl
  rw [e1, e2] at h'
  omega
theorem i64_wf {x : Int} (h : (Lit.int .i64 x).wf = true) : -9223372036854775808 ≤ x ∧ x < 9223372036854775808 := by
  have h' := h
  simp only [Lit.wf, Bool.and_eq_true, decide_eq_true_eq] at h'
  have e1 : IntKind.i64.min = -9223372036854775808 := by decide
  have e2 : IntKind.i64.max = 9223372036854775807 := by decide
  rw [e1, e2] at h'
  omega
theorem tmod_nat (x n : Nat) : Int.tmod (x : Int) (n : Int) = ((x % n : Nat) : Int) := by
  rw [Int.tmod_eq_emod_of_nonneg (by omega)]; exact (Int.natCast_emod _ _).symm
/-- A number within a list's places and its end. -/
theorem place (x : Int) (n : Nat) (h : 0 ≤ x ∧ x < 256) (hn : n ≤ 1000000) : ∃ p : Nat, p ≤ n ∧ Int.tmod (wrap64 x) (wrap64 ((n : Int) + 1)) = p := by
  obtain ⟨y, rfl⟩ := Int.eq_ofNat_of_zero_le h.1
  rw [wr (by omega) (by omega), wr (by omega) (by omega)]
  refine ⟨y % (n + 1), by have := Nat.mod_lt y (show 0 < n + 1 by omega); omega, ?_⟩
  have := tmod_nat y (n + 1)
  simpa using this

/-- How far two lists are alike. -/
def cp : List Int → List Int → Nat
  | x :: xs, y :: ys => if x = y then cp xs ys + 1 else 0
  | _, _ => 0
theorem cp_nil_left (ys : List Int) : cp [] ys = 0 := by cases ys <;> rfl
theorem cp_nil_right (xs : List Int) : cp xs [] = 0 := by cases xs <;> rfl
theorem cp_cons (x y : Int) (xs ys : List Int) : cp (x :: xs) (y :: ys) = if x = y then cp xs ys + 1 else 0 := rfl
theorem cp_le_left : ∀ xs ys : List Int, cp xs ys ≤ xs.length
  | [], ys => by simp [cp_nil_left]
  | x :: xs, [] => by simp [cp_nil_right]
  | x :: xs, y :: ys => by rw [cp_cons]; have := cp_le_left xs ys; split <;> simp; omega
theorem cp_comm : ∀ xs ys : List Int, cp xs ys = cp ys xs
  | [], ys => by simp [cp_nil_left, cp_nil_right]
  | x :: xs, [] => by simp [cp_nil_right, cp_nil_left]
  | x :: xs, y :: ys => by rw [cp_cons, cp_cons, cp_comm xs ys]; by_cases h : x = y <;> simp [h, eq_comm]
theorem cp_le_right (xs ys : List Int) : cp xs ys ≤ ys.length := by rw [cp_comm]; exact cp_le_left _ _
def down (a b : List Int) (i j : Nat) : Nat := cp (a.drop i) (b.drop j)
def up (a b : List Int) (i j : Nat) : Nat := cp (a.take i).reverse (b.take j).reverse
theorem down_out {a b : List Int} {i j : Nat} (h : a.length ≤ i ∨ b.length ≤ j) : down a b i j = 0 := by
  unfold down
  rcases h with h | h
  · rw [List.drop_eq_nil_of_le h, cp_nil_left]
  · rw [List.drop_eq_nil_of_le h, cp_nil_right]
theorem down_step {a b : List Int} {i j : Nat} (h : i < a.length) (h' : j < b.length) : down a b i j = if a.getD i 0 = b.getD j 0 then down a b (i + 1) (j + 1) + 1 else 0 := by
  unfold down; rw [drop_getD h, drop_getD h', cp_cons]
theorem up_zero {a b : List Int} {i j : Nat} (h : i = 0 ∨ j = 0) : up a b i j = 0 := by
  unfold up
  rcases h with rfl | rfl
  · simp [cp_nil_left]
  · simp [cp_nil_right]
theorem up_step {a b : List Int} {i j : Nat} (h : i < a.length) (h' : j < b.length) : up a b (i + 1) (j + 1) = if a.getD i 0 = b.getD j 0 then up a b i j + 1 else 0 := by
  unfold up; rw [take_getD h, take_getD h']; simp only [List.reverse_append, List.reverse_cons, List.reverse_nil, List.nil_append, List.singleton_append, cp_cons]
theorem down_le_left (a b : List Int) (i j : Nat) : down a b i j ≤ a.length - i := by have := cp_le_left (a.drop i) (b.drop j); unfold down; simpa using this
theorem down_le_right (a b : List Int) (i j : Nat) : down a b i j ≤ b.length - j := by have := cp_le_right (a.drop i) (b.drop j); unfold down; simpa using this
theorem up_le_left (a b : List Int) (i j : Nat) : up a b i j ≤ i := by have := cp_le_left (a.take i).reverse (b.take j).reverse; unfold up; simp at this; omega
theorem up_le_right (a b : List Int) (i j : Nat) : up a b i j ≤ j := by have := cp_le_right (a.take i).reverse (b.take j).reverse; unfold up; simp at this; omega
theorem up_turned (a b : List Int) {i j : Nat} (hi : i ≤ a.length) (hj : j ≤ b.length) : up a b i j = down a.reverse b.reverse (a.length - i) (b.length - j) := by
  unfold up down
  rw [List.drop_reverse, List.drop_reverse, show a.length - (a.length - i) = i by omega, show b.length - (b.length - j) = j by omega]
theorem down_comm (a b : List Int) (i j : Nat) : down a b i j = down b a j i := cp_comm _ _
theorem up_comm (a b : List Int) (i j : Nat) : up a b i j = up b a j i := cp_comm _ _
theorem cp_stop : ∀ xs ys : List Int, cp (xs.drop (cp xs ys)) (ys.drop (cp xs ys)) = 0
  | [], ys => by simp [cp_nil_left]
  | x :: xs, [] => by simp [cp_nil_right]
  | x :: xs, y :: ys => by
    rw [cp_cons]
    by_cases h : x = y
    · rw [if_pos h]; simpa using cp_stop xs ys
    · rw [if_neg h]; simp [cp_cons, h]
theorem cp_same : ∀ xs ys : List Int, xs.take (cp xs ys) = ys.take (cp xs ys)
  | [], ys => by simp [cp_nil_left]
  | x :: xs, [] => by simp [cp_nil_right]
  | x :: xs, y :: ys => by
    rw [cp_cons]
    by_cases h : x = y
    · rw [if_pos h]; subst h; simpa using cp_same xs ys
    · rw [if_neg h]; simp
theorem down_stop (a b : List Int) (i j : Nat) : down a b (i + down a b i j) (j + down a b i j) = 0 := by
  have := cp_stop (a.drop i) (b.drop j)
  rw [List.drop_drop, List.drop_drop] at this
  exact this
theorem cp_ge : ∀ (n : Nat) (xs ys : List Int), n ≤ xs.length → n ≤ ys.length → xs.take n = ys.take n → n ≤ cp xs ys
  | 0, _, _, _, _, _ => Nat.zero_le _
  | n + 1, [], _, h, _, _ => by simp at h
  | n + 1, _ :: _, [], _, h, _ => by simp at h
  | n + 1, x :: xs, y :: ys, h1, h2, h => by
    simp at h1 h2 h
    rw [cp_cons, if_pos h.1]
    have := cp_ge n xs ys h1 h2 h.2
    omega
theorem up_back (a b : List Int) (i j : Nat) (hi : i ≤ a.length) (hj : j ≤ b.length) : down a b i j ≤ up a b (i + down a b i j) (j + down a b i j) := by
  have h1 := down_le_left a b i j
  have h2 := down_le_right a b i j
  have h3 := cp_same (a.drop i) (b.drop j)
  change (a.drop i).take (down a b i j) = (b.drop j).take (down a b i j) at h3
  unfold up
  generalize down a b i j = n at *
  refine cp_ge n _ _ ?_ ?_ ?_
  · simp; omega
  · simp; omega
  · have e : ∀ (c : List Int) (p : Nat), p + n ≤ c.length → (c.take (p + n)).reverse.take n = ((c.drop p).take n).reverse := by
      intro c p h
      rw [List.take_reverse]
      congr 1
      rw [List.drop_take]
      simp
      rw [Nat.min_eq_left (by omega)]
      congr 1 <;> simp
    rw [e a i (by omega), e b j (by omega), h3]

theorem snake_Down_l0 (a b : List Int) (ha : a.length ≤ 1000000) (hb : b.length ≤ 1000000) : ∀ (d k i j n : Nat), i + n ≤ a.length → j + n ≤ b.length → a.length - (i + n) = d → d < k →
    snake_Down.l0 k a b i j n = some (((n + down a b (i + n) (j + n) : Nat) : Int)) := by
  intro d
  induction d with
  | zero =>
    intro k i j n h1 h2 hd hk
    obtain ⟨k, rfl⟩ : ∃ m, k = m + 1 := ⟨k - 1, by omega⟩
    rw [down_out (.inl (by omega))]
    simp (disch := omega) only [snake_Down.l0, wr, if_pos, if_neg]
    simp
  | succ d ih =>
    intro k i j n h1 h2 hd hk
    obtain ⟨k, rfl⟩ : ∃ m, k = m + 1 := ⟨k - 1, by omega⟩
    by_cases hj : j + n < b.length
    · have e1 : rd a ((i : Int) + n) = a.getD (i + n) 0 := rd_at (by omega)
      have e2 : rd b ((j : Int) + n) = b.getD (j + n) 0 := rd_at (by omega)
      rw [down_step (by omega) (by omega)]
      simp (disch := omega) only [snake_Down.l0, wr, if_pos, if_neg, e1, e2]
      split
      · have := ih k i j (n + 1) (by omega) (by omega) (by omega) (by omega)
        simp only [Int.natCast_add, Int.cast_ofNat_Int] at this
        rw [this, show i + n + 1 = i + (n + 1) from rfl, show j + n + 1 = j + (n + 1) from rfl]; simp; omega
      · simp
    · rw [down_out (.inr (by omega))]
      simp (disch := omega) only [snake_Down.l0, wr, if_pos, if_neg]
      simp

theorem within_eq (a b : List Int) (i j : Int) : snake_within.f a b i j = some (decide (0 ≤ i ∧ i ≤ a.length ∧ 0 ≤ j ∧ j ≤ b.length)) := by
  unfold snake_within.f
  by_cases h1 : 0 ≤ i <;> by_cases h2 : i ≤ a.length <;> by_cases h3 : 0 ≤ j <;> simp [h1, h2, h3]
theorem snake_Down_in (a b : List Int) (ha : a.length ≤ 1000000) (hb : b.length ≤ 1000000) (k i j : Nat) (hi : i ≤ a.length) (hj : j ≤ b.length) (hk : a.length < k) : snake_Down.f k a b i j = some ((down a b i j : Nat) : Int) := by
  unfold snake_Down.f
  rw [within_eq, decide_eq_true (by omega)]
  have := snake_Down_l0 a b ha hb (a.length - i) k i j 0 (by omega) (by omega) (by omega) (by omega)
  simp only [bs, if_true]
  simpa using this
theorem snake_Down_out (a b : List Int) (k : Nat) (i j : Int) (h : ¬ (0 ≤ i ∧ i ≤ a.length ∧ 0 ≤ j ∧ j ≤ b.length)) : snake_Down.f k a b i j = some 0 := by
  unfold snake_Down.f
  rw [within_eq, decide_eq_false h]
  simp

theorem snake_Up_l0 (a b : List Int) (ha : a.length ≤ 1000000) (hb : b.length ≤ 1000000) : ∀ (d k i j n : Nat), i ≤ a.length → j ≤ b.length → n ≤ i → n ≤ j → i - n = d → d < k →
    snake_Up.l0 k a b i j n = some (((n + up a b (i - n) (j - n) : Nat) : Int)) := by
  intro d
  induction d with
  | zero =>
    intro k i j n h1 h2 h3 h4 hd hk
    obtain ⟨k, rfl⟩ : ∃ m, k = m + 1 := ⟨k - 1, by omega⟩
    rw [up_zero (.inl (by omega))]
    simp (disch := omega) only [snake_Up.l0, wr, if_pos, if_neg]
    simp
  | succ d ih =>
    intro k i j n h1 h2 h3 h4 hd hk
    obtain ⟨k, rfl⟩ : ∃ m, k = m + 1 := ⟨k - 1, by omega⟩
    by_cases hj : n < j
    · obtain ⟨p, hp⟩ : ∃ p, i - n = p + 1 := ⟨i - n - 1, by omega⟩
      obtain ⟨q, hq⟩ : ∃ q, j - n = q + 1 := ⟨j - n - 1, by omega⟩
      have e1 : rd a ((i : Int) - 1 - n) = a.getD p 0 := rd_at (by omega)
      have e2 : rd b ((j : Int) - 1 - n) = b.getD q 0 := rd_at (by omega)
      rw [hp, hq, up_step (by omega) (by omega)]
      simp (disch := omega) only [snake_Up.l0, wr, if_pos, if_neg, e1, e2]
      split
      · have := ih k i j (n + 1) (by omega) (by omega) (by omega) (by omega) (by omega) (by omega)
        simp only [Int.natCast_add, Int.cast_ofNat_Int] at this
        rw [this, show i - (n + 1) = p by omega, show j - (n + 1) = q by omega]; simp; omega
      · simp
    · rw [up_zero (.inr (by omega))]
      simp (disch := omega) only [snake_Up.l0, wr, if_pos, if_neg]
      simp
theorem snake_Up_in (a b : List Int) (ha : a.length ≤ 1000000) (hb : b.length ≤ 1000000) (k i j : Nat) (hi : i ≤ a.length) (hj : j ≤ b.length) (hk : a.length < k) : snake_Up.f k a b i j = some ((up a b i j : Nat) : Int) := by
  unfold snake_Up.f
  rw [within_eq, decide_eq_true (by omega)]
  have := snake_Up_l0 a b ha hb i k i j 0 (by omega) (by omega) (by omega) (by omega) (by omega) (by omega)
  simp only [bs, if_true]
  simpa using this
theorem snake_Up_out (a b : List Int) (k : Nat) (i j : Int) (h : ¬ (0 ≤ i ∧ i ≤ a.length ∧ 0 ≤ j ∧ j ≤ b.length)) : snake_Up.f k a b i j = some 0 := by
  unfold snake_Up.f
  rw [within_eq, decide_eq_false h]
  simp

theorem snake_Slide_out (a b : List Int) (ha : a.length ≤ 1000000) (hb : b.length ≤ 1000000) (k : Nat) (d j : Int) (h : ¬ (0 ≤ j ∧ j ≤ b.length ∧ d ≤ j ∧ j - a.length ≤ d)) : snake_Slide.f k a b d j = some (-1) := by
  unfold snake_Slide.f
  split
  · rfl
  · split
    · rfl
    · rw [wr (by omega) (by omega)]
      split
      · rfl
      · rw [if_pos (by omega)]
theorem snake_Slide_in (a b : List Int) (ha : a.length ≤ 1000000) (hb : b.length ≤ 1000000) (k : Nat) (d : Int) (i j : Nat) (hi : i ≤ a.length) (hj : j ≤ b.length) (hd : d = (j : Int) - i) (hk : a.length < k) :
    snake_Slide.f k a b d j = some (((j + down a b i j : Nat) : Int)) := by
  have h1 := down_le_right a b i j
  have h2 := snake_Down_in a b ha hb k i j hi hj hk
  unfold snake_Slide.f
  simp (disch := omega) only [wr, if_pos, if_neg]
  rw [show (j : Int) - d = i by omega, h2]
  simp (disch := omega) only [wr, bs]
  simp

def few (a : List Int) (n : Int) : List Int := a.map (· % n)
theorem few_length (a : List Int) (n : Int) : (few a n).length = a.length := by simp [few]
theorem tmod_few (x n : Int) (hn : 0 < n) : (if Int.tmod x n < 0 then Int.tmod x n + n else Int.tmod x n) = x % n := by
  rw [Int.tmod_eq_emod]
  have h1 := Int.emod_nonneg x (show n ≠ 0 by omega)
  have h2 := Int.emod_lt_of_pos x hn
  have h3 : (n.natAbs : Int) = n := by omega
  by_cases h : 0 ≤ x ∨ n ∣ x
  · rw [if_pos h]; rw [if_neg (by omega)]; omega
  · rw [if_neg h, h3]
    have h4 : x % n ≠ 0 := fun e => h (.inr (Int.dvd_of_emod_eq_zero e))
    rw [if_pos (by omega)]; omega
theorem few_take (a : List Int) (n : Int) (i : Nat) (h : i < a.length) : few (a.take (i + 1)) n = few (a.take i) n ++ [a.getD i 0 % n] := by
  rw [take_getD h]; simp [few]
theorem tattingref1_Few_l0 (a : List Int) (n : Int) (hn : 0 < n) (hn' : n ≤ 1000000) (ha : a.length ≤ 1000000) : ∀ (d k i : Nat), i + d = a.length → d < k →
    tattingref1_Few.l0 k a n (few (a.take i) n) i = some (few a n) := by
  intro d
  induction d with
  | zero =>
    intro k i hi hk
    obtain ⟨k, rfl⟩ : ∃ m, k = m + 1 := ⟨k - 1, by omega⟩
    simp (disch := omega) only [tattingref1_Few.l0, if_neg]
    rw [List.take_of_length_le (by omega)]
  | succ d ih =>
    intro k i hi hk
    obtain ⟨k, rfl⟩ : ∃ m, k = m + 1 := ⟨k - 1, by omega⟩
    have e1 : rd a (i : Int) = a.getD i 0 := rfl
    have hl : (few (a.take i) n).length ≤ a.length := by rw [few_length]; simp; omega
    have h1 := Int.emod_nonneg (a.getD i 0) (show n ≠ 0 by omega)
    have h2 := Int.emod_lt_of_pos (a.getD i 0) hn
    have h3 := tmod_few (a.getD i 0) n hn
    have h4 := ih k (i + 1) (by omega) (by omega)
    rw [few_take a n i (by omega)] at h4
    simp only [Int.natCast_add, Int.cast_ofNat_Int] at h4
    simp (disch := omega) only [tattingref1_Few.l0, if_pos, if_neg, e1, wr]
    split
    · rename_i hlt
      rw [if_pos hlt] at h3
      rw [h3]; exact h4
    · rename_i hlt
      rw [if_neg hlt] at h3
      rw [h3]; exact h4
theorem tattingref1_Few_eq (a : List Int) (n : Int) (hn : 0 < n) (hn' : n ≤ 1000000) (ha : a.length ≤ 1000000) (k : Nat) (hk : a.length < k) : tattingref1_Few.f k a n = some (few a n) := by
  have := tattingref1_Few_l0 a n hn hn' ha a.length k 0 (by omega) hk
  unfold tattingref1_Few.f
  simpa [few] using this

theorem tattingref1_SameInts_l0 (a b : List Int) (ha : a.length ≤ 1000000) (hl : a.length = b.length) : ∀ (d k i : Nat), i + d = a.length → d < k →
    tattingref1_SameInts.l0 k a b i = some (decide (a.drop i = b.drop i)) := by
  intro d
  induction d with
  | zero =>
    intro k i hi hk
    obtain ⟨k, rfl⟩ : ∃ m, k = m + 1 := ⟨k - 1, by omega⟩
    simp (disch := omega) only [tattingref1_SameInts.l0, if_neg]
    rw [List.drop_eq_nil_of_le (by omega), List.drop_eq_nil_of_le (by omega)]; simp
  | succ d ih =>
    intro k i hi hk
    obtain ⟨k, rfl⟩ : ∃ m, k = m + 1 := ⟨k - 1, by omega⟩
    have e1 : rd a (i : Int) = a.getD i 0 := rfl
    have e2 : rd b (i : Int) = b.getD i 0 := rfl
    simp (disch := omega) only [tattingref1_SameInts.l0, if_pos, e1, e2, wr]
    have h4 := ih k (i + 1) (by omega) (by omega)
    simp only [Int.natCast_add, Int.cast_ofNat_Int] at h4
    rw [h4, drop_getD (show i < a.length by omega), drop_getD (show i < b.length by omega)]
    by_cases h : a.getD i 0 = b.getD i 0
    · rw [if_pos h]; simp only [List.cons.injEq, h, true_and]
    · rw [if_neg h]; simp only [List.cons.injEq]; rw [decide_eq_false (fun e => h e.1)]
theorem tattingref1_SameInts_eq (a b : List Int) (ha : a.length ≤ 1000000) (k : Nat) (hk : a.length < k) : tattingref1_SameInts.f k a b = some (decide (a = b)) := by
  unfold tattingref1_SameInts.f
  by_cases h : (a.length : Int) = b.length
  · rw [if_pos h]
    have := tattingref1_SameInts_l0 a b ha (by omega) a.length k 0 (by omega) hk
    simpa using this
  · rw [if_neg h, decide_eq_false]
    rintro rfl; exact h rfl

theorem awake_200 : tattinglaw17_awake.f 200 = some true := by decide +kernel
theorem ends_any (a b : List Int) (i j : Int) (hi : 0 ≤ i ∧ i < 256) (hj : 0 ≤ j ∧ j < 256) (K : Nat) (hK : 200 ≤ K) (haw : tattinglaw17_awake.f K = some true) : tattinglaw17_SnakeEnds.f K a b i j = some true := by
  unfold tattinglaw17_SnakeEnds.f
  rw [haw]
  obtain ⟨K, rfl⟩ : ∃ m, K = m + 1 := ⟨K - 1, by omega⟩
  rw [bs, itt]
  by_cases ha : (a.length : Int) > 40
  · rw [if_pos ha, tattinglaw17_SnakeEnds.j0, itt]
  rw [if_neg ha]
  by_cases hb : (b.length : Int) > 40
  · rw [decide_eq_true hb, tattinglaw17_SnakeEnds.j0, itt]
  rw [decide_eq_false hb, tattinglaw17_SnakeEnds.j0, ift, tattingref1_Few_eq a 2 (by omega) (by omega) (by omega) K (by omega), bs, tattingref1_Few_eq b 2 (by omega) (by omega) (by omega) K (by omega), bs]
  have la := few_length a 2
  have lb := few_length b 2
  generalize few a 2 = x at *
  generalize few b 2 = y at *
  obtain ⟨p, hp, ep⟩ := place i x.length hi (by omega)
  obtain ⟨q, hq, eq⟩ := place j y.length hj (by omega)
  rw [ep, eq]
  have h1 := down_le_left x y p q
  have h2 := down_le_right x y p q
  have h3 := down_stop x y p q
  have h4 : (x.drop p).take (down x y p q) = (y.drop q).take (down x y p q) := cp_same _ _
  have e1 := snake_Down_in x y (by omega) (by omega) K p q hp hq (by omega)
  generalize down x y p q = n at *
  have t1 : ((p : Int) + n).toNat = p + n := by omega
  have t2 : ((q : Int) + n).toNat = q + n := by omega
  have s1 : (x.take (p + n)).drop p = (y.take (q + n)).drop q := by
    rw [List.drop_take, List.drop_take, Nat.add_sub_cancel_left, Nat.add_sub_cancel_left]; exact h4
  have s2 : ((x.take (p + n)).drop p).length ≤ x.length := by simp; omega
  simp (disch := omega) only [wr, if_neg, if_pos, e1, bs, t1, t2, Int.toNat_natCast]
  rw [← s1, tattingref1_SameInts_eq _ _ (by omega) K (by omega), bs, decide_eq_true rfl, itt]
  by_cases c1 : (p : Int) + n = x.length
  · rw [if_pos c1]
  rw [if_neg c1]
  by_cases c2 : (q : Int) + n = y.length
  · rw [if_pos c2]
  rw [if_neg c2]
  try simp (disch := omega) only [wr, if_neg, if_pos]
  congr 1
  rw [bne_iff_ne]
  intro e
  have e' : x.getD (p + n) 0 = y.getD (q + n) 0 := by
    rw [rd_at (show (p : Int) + n = ((p + n : Nat) : Int) by omega), rd_at (show (q : Int) + n = ((q + n : Nat) : Int) by omega)] at e; exact e
  rw [down_step (by omega) (by omega), if_pos e'] at h3
  omega
theorem law_SnakeEnds : tattinglaw17_SnakeEnds.Pure := by
  intro a b i j _ _ _ _ _ _ h1 h2
  exact ⟨200, ends_any a b i j (u8_wf h1) (u8_wf h2) 200 (by omega) awake_200⟩

theorem SnakeEnds : tattinglaw17_SnakeEnds.Pure := law_SnakeEnds

end Go.Proofs.Ytnadeebbnnbpgaa.Pure
namespace Go.Proofs.Ytnadeebbnnbpgaa.PrintWords
/-- The row's word under the name by which the row calls it. -/
abbrev sized_ints := @Go.Proofs.YtnadeebbnnbpgaaW.PrintWords.sized_ints
end Go.Proofs.Ytnadeebbnnbpgaa.PrintWords
