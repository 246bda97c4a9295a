/- What the given program's functions come to, each a Lean function and the walk that shows it: no condition beside those that each theorem names. -/
import Derived.Test.YteijoilcffhomaaPOnpFarx0
import Derived.Test.YteijoilcffhomaaPOnpFarx1
namespace Go.Proofs.Yteijoilcffhomaa.POnpFar
open Go.RowKit Go.Proofs.YteijoilcffhomaaW.PrintWords Go.Proofs.YteijoilcffhomaaW.PrintLast Go.Proofs.YteijoilcffhomaaW.PrintMore
attribute [local go_sem] max2_int min2_int max_two min_two max_three min_three max_four min_four   -- for this text's walks alone
set_option linter.unusedVariables false
set_option linter.unusedSimpArgs false

/-! ### of onp, by hand: H -/
namespace H
 /-! Words for the pure side: whole numbers that do not wrap, reads of lists. -/
 theorem wr {x : Int} (h : -9223372036854775808 ≤ x) (h' : x < 9223372036854775808) : wrap64 x = x := by unfold wrap64; omega
 theorem rd_nat (xs : List Int) (n : Nat) : rd xs (n : Int) = xs.getD n 0 := rfl
 theorem rd_at {xs : List Int} {i : Int} {n : Nat} (h : i = (n : Int)) : rd xs i = xs.getD n 0 := by subst h; rfl
 theorem drop_getD {xs : List Int} {i : Nat} (h : i < xs.length) : xs.drop i = xs.getD i 0 :: xs.drop (i + 1) := by
   rw [List.drop_eq_getElem_cons h]; simp [List.getD_eq_getElem?_getD, h]
 theorem take_getD {xs : List Int} {i : Nat} (h : i < xs.length) : xs.take (i + 1) = xs.take i ++ [xs.getD i 0] := by
   rw [List.take_succ_eq_append_getElem h]; simp [List.getD_eq_getElem?_getD, h]
 theorem lz_bind {α β : Type} {a a' : Option α} {f : α → Option β} (h : a = a') : a.bind f = a'.bind f := by rw [h]
 theorem lz_ite {α : Type} {c c' : Prop} [s : Decidable c] [s' : Decidable c'] {t e : α} (h : c = c') : ite c t e = ite c' t e := by
   subst h; rw [Subsingleton.elim s s']
 attribute [local congr] lz_bind lz_ite
 theorem bs {α β : Type} (a : α) (f : α → Option β) : (some a).bind f = f a := by simp
 theorem itt {α : Type} (t e : α) : (if (true = true) then t else e) = t := by simp
 theorem ift {α : Type} (t e : α) : (if (false = true) then t else e) = e := by simp
 theorem ifT {α : Type} (t e : α) : (if True then t else e) = t := by simp
 theorem ifF {α : Type} (t e : α) : (if False then t else e) = e := by simp
 /-- How far two lists are alike. -/
 def cp : List Int → List Int → Nat
   | x :: xs, y :: ys => if x = y then cp xs ys + 1 else 0
   | _, _ => 0
 theorem cp_nil_left (ys : List Int) : cp [] ys = 0 := by cases ys <;> rfl
 theorem cp_nil_right (xs : List Int) : cp xs [] = 0 := by cases xs <;> rfl
 theorem cp_cons (x y : Int) (xs ys : List Int) : cp (x :: xs) (y :: ys) = if x = y then cp xs ys + 1 else 0 := rfl
 theorem cp_le_left : ∀ xs ys : List Int, cp xs ys ≤ xs.length
   | [], ys => by simp [cp_nil_left]
   | x :: xs, [] => by simp [cp_nil_right]
   | x :: xs, y :: ys => by rw [cp_cons]; have := cp_le_left xs ys; split <;> simp; omega
 theorem cp_comm : ∀ xs ys : List Int, cp xs ys = cp ys xs
   | [], ys => by simp [cp_nil_left, cp_nil_right]
   | x :: xs, [] => by simp [cp_nil_right, cp_nil_left]
   | x :: xs, y :: ys => by rw [cp_cons, cp_cons, cp_comm xs ys]; by_cases h : x = y <;> simp [h, eq_comm]
 theorem cp_le_right (xs ys : List Int) : cp xs ys ≤ ys.length := by rw [cp_comm]; exact cp_le_left _ _
 def down (a b : List Int) (i j : Nat) : Nat := cp (a.drop i) (b.drop j)
 def up (a b : List Int) (i j : Nat) : Nat := cp (a.take i).reverse (b.take j).reverse
 theorem down_out {a b : List Int} {i j : Nat} (h : a.length ≤ i ∨ b.length ≤ j) : down a b i j = 0 := by
   unfold down
   rcases h with h | h
   · rw [List.drop_eq_nil_of_le h, cp_nil_left]
   · rw [List.drop_eq_nil_of_le h, cp_nil_right]
 theorem down_step {a b : List Int} {i j : Nat} (h : i < a.length) (h' : j < b.length) : down a b i j = if a.getD i 0 = b.getD j 0 then down a b (i + 1) (j + 1) + 1 else 0 := by
   unfold down; rw [drop_getD h, drop_getD h', cp_cons]
 theorem up_zero {a b : List Int} {i j : Nat} (h : i = 0 ∨ j = 0) : up a b i j = 0 := by
   unfold up
   rcases h with rfl | rfl
   · simp [cp_nil_left]
   · simp [cp_nil_right]
 theorem up_step {a b : List Int} {i j : Nat} (h : i < a.length) (h' : j < b.length) : up a b (i + 1) (j + 1) = if a.getD i 0 = b.getD j 0 then up a b i j + 1 else 0 := by
   unfold up; rw [take_getD h, take_getD h']; simp only [List.reverse_append, List.reverse_cons, List.reverse_nil, List.nil_append, List.singleton_append, cp_cons]
 theorem down_le_left (a b : List Int) (i j : Nat) : down a b i j ≤ a.length - i := by have := cp_le_left (a.drop i) (b.drop j); unfold down; simpa using this
 theorem down_le_right (a b : List Int) (i j : Nat) : down a b i j ≤ b.length - j := by have := cp_le_right (a.drop i) (b.drop j); unfold down; simpa using this
 theorem up_le_left (a b : List Int) (i j : Nat) : up a b i j ≤ i := by have := cp_le_left (a.take i).reverse (b.take j).reverse; unfold up; simp at this; omega
 theorem up_le_right (a b : List Int) (i j : Nat) : up a b i j ≤ j := by have := cp_le_right (a.take i).reverse (b.take j).reverse; unfold up; simp at this; omega
 theorem up_turned (a b : List Int) {i j : Nat} (hi : i ≤ a.length) (hj : j ≤ b.length) : up a b i j = down a.reverse b.reverse (a.length - i) (b.length - j) := by
   unfold up down
   rw [List.drop_reverse, List.drop_reverse, show a.length - (a.length - i) = i by omega, show b.length - (b.length - j) = j by omega]
 theorem down_comm (a b : List Int) (i j : Nat) : down a b i j = down b a j i := cp_comm _ _
 theorem up_comm (a b : List Int) (i j : Nat) : up a b i j = up b a j i := cp_comm _ _
 theorem cp_stop : ∀ xs ys : List Int, cp (xs.drop (cp xs ys)) (ys.drop (cp xs ys)) = 0
   | [], ys => by simp [cp_nil_left]
   | x :: xs, [] => by simp [cp_nil_right]
   | x :: xs, y :: ys => by
     rw [cp_cons]
     by_cases h : x = y
     · rw [if_pos h]; simpa using cp_stop xs ys
     · rw [if_neg h]; simp [cp_cons, h]
 theorem cp_same : ∀ xs ys : List Int, xs.take (cp xs ys) = ys.take (cp xs ys)
   | [], ys => by simp [cp_nil_left]
   | x :: xs, [] => by simp [cp_nil_right]
   | x :: xs, y :: ys => by
     rw [cp_cons]
     by_cases h : x = y
     · rw [if_pos h]; subst h; simpa using cp_same xs ys
     · rw [if_neg h]; simp
 theorem down_stop (a b : List Int) (i j : Nat) : down a b (i + down a b i j) (j + down a b i j) = 0 := by
   have := cp_stop (a.drop i) (b.drop j)
   rw [List.drop_drop, List.drop_drop] at this
   exact this
 theorem cp_ge : ∀ (n : Nat) (xs ys : List Int), n ≤ xs.length → n ≤ ys.length → xs.take n = ys.take n → n ≤ cp xs ys
   | 0, _, _, _, _, _ => Nat.zero_le _
   | n + 1, [], _, h, _, _ => by simp at h
   | n + 1, _ :: _, [], _, h, _ => by simp at h
   | n + 1, x :: xs, y :: ys, h1, h2, h => by
     simp at h1 h2 h
     rw [cp_cons, if_pos h.1]
     have := cp_ge n xs ys h1 h2 h.2
     omega
 theorem up_back (a b : List Int) (i j : Nat) (hi : i ≤ a.length) (hj : j ≤ b.length) : down a b i j ≤ up a b (i + down a b i j) (j + down a b i j) := by
   have h1 := down_le_left a b i j
   have h2 := down_le_right a b i j
   have h3 := cp_same (a.drop i) (b.drop j)
   change (a.drop i).take (down a b i j) = (b.drop j).take (down a b i j) at h3
   unfold up
   generalize down a b i j = n at *
   refine cp_ge n _ _ ?_ ?_ ?_
   · simp; omega
   · simp; omega
   · have e : ∀ (c : List Int) (p : Nat), p + n ≤ c.length → (c.take (p + n)).reverse.take n = ((c.drop p).take n).reverse := by
       intro c p h
       rw [List.take_reverse]
       congr 1
       rw [List.drop_take]
       simp
       rw [Nat.min_eq_left (by omega)]
       congr 1 <;> simp
     rw [e a i (by omega), e b j (by omega), h3]
 theorem snake_Down_l0 (a b : List Int) (ha : a.length ≤ 1000000) (hb : b.length ≤ 1000000) : ∀ (d k i j n : Nat), i + n ≤ a.length → j + n ≤ b.length → a.length - (i + n) = d → d < k →
     snake_Down.l0 k a b i j n = some (((n + down a b (i + n) (j + n) : Nat) : Int)) := by
   intro d
   induction d with
   | zero =>
     intro k i j n h1 h2 hd hk
     obtain ⟨k, rfl⟩ : ∃ m, k = m + 1 := ⟨k - 1, by omega⟩
     rw [down_out (.inl (by omega))]
     simp (disch := omega) only [snake_Down.l0, wr, if_pos, if_neg]
     simp
   | succ d ih =>
     intro k i j n h1 h2 hd hk
     obtain ⟨k, rfl⟩ : ∃ m, k = m + 1 := ⟨k - 1, by omega⟩
     by_cases hj : j + n < b.length
     · have e1 : rd a ((i : Int) + n) = a.getD (i + n) 0 := rd_at (by omega)
       have e2 : rd b ((j : Int) + n) = b.getD (j + n) 0 := rd_at (by omega)
       rw [down_step (by omega) (by omega)]
       simp (disch := omega) only [snake_Down.l0, wr, if_pos, if_neg, e1, e2]
       split
       · have := ih k i j (n + 1) (by omega) (by omega) (by omega) (by omega)
         simp only [Int.natCast_add, Int.cast_ofNat_Int] at this
         rw [this, show i + n + 1 = i + (n + 1) from rfl, show j + n + 1 = j + (n + 1) from rfl]; simp; omega
       · simp
     · rw [down_out (.inr (by omega))]
       simp (disch := omega) only [snake_Down.l0, wr, if_pos, if_neg]
       simp

 theorem within_eq (a b : List Int) (i j : Int) : snake_within.f a b i j = some (decide (0 ≤ i ∧ i ≤ a.length ∧ 0 ≤ j ∧ j ≤ b.length)) := by
   unfold snake_within.f
   by_cases h1 : 0 ≤ i <;> by_cases h2 : i ≤ a.length <;> by_cases h3 : 0 ≤ j <;> simp [h1, h2, h3]
 theorem snake_Down_in (a b : List Int) (ha : a.length ≤ 1000000) (hb : b.length ≤ 1000000) (k i j : Nat) (hi : i ≤ a.length) (hj : j ≤ b.length) (hk : a.length < k) : snake_Down.f k a b i j = some ((down a b i j : Nat) : Int) := by
   unfold snake_Down.f
   rw [within_eq, decide_eq_true (by omega)]
   have := snake_Down_l0 a b ha hb (a.length - i) k i j 0 (by omega) (by omega) (by omega) (by omega)
   simp only [bs, if_true]
   simpa using this
 theorem snake_Down_out (a b : List Int) (k : Nat) (i j : Int) (h : ¬ (0 ≤ i ∧ i ≤ a.length ∧ 0 ≤ j ∧ j ≤ b.length)) : snake_Down.f k a b i j = some 0 := by
   unfold snake_Down.f
   rw [within_eq, decide_eq_false h]
   simp
end H

/-! ### of onp, by hand: Rel -/
/-- A reach as it is meant: how far a diagonal comes, and the runs on the way, the last one first. -/
abbrev Rch := Int × List (Int × Int × Int)
def far0 : Rch := (-1, [])
/-- How much is alike from two places on. -/
def alikeN (x y : List Int) (i j : Int) : Int := if 0 ≤ i ∧ i ≤ x.length ∧ 0 ≤ j ∧ j ≤ y.length then ((H.down x y i.toNat j.toNat : Nat) : Int) else 0
theorem dn_f (x y : List Int) (hx : x.length ≤ 1000000) (hy : y.length ≤ 1000000) (i j : Int) : snake_Down.f (x.length + 1) x y i j = some (alikeN x y i j) := by
  unfold alikeN
  by_cases h : 0 ≤ i ∧ i ≤ x.length ∧ 0 ≤ j ∧ j ≤ y.length
  · rw [if_pos h]
    obtain ⟨h1, h2, h3, h4⟩ := h
    have := H.snake_Down_in x y hx hy (x.length + 1) i.toNat j.toNat (by omega) (by omega) (by omega)
    rwa [Int.toNat_of_nonneg h1, Int.toNat_of_nonneg h3] at this
  · rw [if_neg h]
    exact H.snake_Down_out x y _ i j h
theorem dn_bound (x y : List Int) (i j : Int) : 0 ≤ alikeN x y i j ∧ alikeN x y i j ≤ x.length ∧ (j ≤ y.length → -1 ≤ j → j + alikeN x y i j ≤ y.length) := by
  unfold alikeN
  split
  · next h =>
    have h1 := H.down_le_left x y i.toNat j.toNat
    have h2 := H.down_le_right x y i.toNat j.toNat
    exact ⟨by omega, by omega, fun _ _ => by omega⟩
  · exact ⟨by omega, by omega, fun _ _ => by omega⟩
def as1 (b l : Rch) : Rch := if l.1 + 1 > b.1 then (l.1 + 1, l.2) else b
def as2 (b r : Rch) : Rch := if r.1 > b.1 then r else b
/-- A diagonal's next reach. -/
def stp (x y : List Int) (k : Int) (b l r : Rch) : Rch :=
  if 0 < alikeN x y (m3 (as2 (as1 b l) r).1 y.length (x.length + k) - k) (m3 (as2 (as1 b l) r).1 y.length (x.length + k)) then
    (m3 (as2 (as1 b l) r).1 y.length (x.length + k) + alikeN x y (m3 (as2 (as1 b l) r).1 y.length (x.length + k) - k) (m3 (as2 (as1 b l) r).1 y.length (x.length + k)),
      (m3 (as2 (as1 b l) r).1 y.length (x.length + k) - k, m3 (as2 (as1 b l) r).1 y.length (x.length + k), alikeN x y (m3 (as2 (as1 b l) r).1 y.length (x.length + k) - k) (m3 (as2 (as1 b l) r).1 y.length (x.length + k))) :: (as2 (as1 b l) r).2)
  else (m3 (as2 (as1 b l) r).1 y.length (x.length + k), (as2 (as1 b l) r).2)
def atL (first : Int) (L : List Rch) (k : Int) : Rch := if k < first then far0 else if first + L.length ≤ k then far0 else L.getD (k - first).toNat far0
/-- Within what a reach lies. -/
def Bd (x y : List Int) (r : Rch) : Prop := -1 ≤ r.1 ∧ r.1 ≤ y.length ∧ ∀ q, q ∈ r.2 → 0 ≤ q.1 ∧ q.1 ≤ x.length ∧ 0 ≤ q.2.1 ∧ q.2.1 ≤ y.length ∧ 0 < q.2.2 ∧ q.2.2 ≤ x.length
theorem Bd_far0 (x y : List Int) : Bd x y far0 := ⟨by decide, by show (-1 : Int) ≤ _; omega, fun q hq => by cases hq⟩
theorem Bd_atL {x y : List Int} {first : Int} {L : List Rch} {k : Int} (h : ∀ r, r ∈ L → Bd x y r) : Bd x y (atL first L k) := by
  unfold atL
  split
  · exact Bd_far0 x y
  · split
    · exact Bd_far0 x y
    · next h1 h2 =>
      rw [List.getD_eq_getElem?_getD, List.getElem?_eq_getElem (by omega)]
      exact h _ (List.getElem_mem _)
theorem m3_bound {a b c : Int} (ha : -1 ≤ a) (hb : 0 ≤ b) (hc : 0 ≤ c) : -1 ≤ m3 a b c ∧ m3 a b c ≤ b ∧ m3 a b c ≤ c ∧ m3 a b c ≤ a := by
  unfold m3; split <;> split <;> omega
theorem as_runs {x y : List Int} {b l r : Rch} (hb : Bd x y b) (hl : Bd x y l) (hr : Bd x y r) : -1 ≤ (as2 (as1 b l) r).1 ∧ ∀ q, q ∈ (as2 (as1 b l) r).2 → 0 ≤ q.1 ∧ q.1 ≤ x.length ∧ 0 ≤ q.2.1 ∧ q.2.1 ≤ y.length ∧ 0 < q.2.2 ∧ q.2.2 ≤ x.length := by
  have h1 : -1 ≤ (as1 b l).1 ∧ ∀ q, q ∈ (as1 b l).2 → 0 ≤ q.1 ∧ q.1 ≤ x.length ∧ 0 ≤ q.2.1 ∧ q.2.1 ≤ y.length ∧ 0 < q.2.2 ∧ q.2.2 ≤ x.length := by
    unfold as1
    split
    · exact ⟨by have := hl.1; show -1 ≤ l.1 + 1; omega, hl.2.2⟩
    · exact ⟨hb.1, hb.2.2⟩
  generalize as1 b l = c at h1
  unfold as2
  split
  · exact ⟨hr.1, hr.2.2⟩
  · exact h1
theorem Bd_stp {x y : List Int} {k : Int} {b l r : Rch} (hb : Bd x y b) (hl : Bd x y l) (hr : Bd x y r) (hk : 0 ≤ x.length + k) : Bd x y (stp x y k b l r) := by
  obtain ⟨h1, h2⟩ := as_runs hb hl hr
  unfold stp
  generalize as2 (as1 b l) r = c at h1 h2
  obtain ⟨m1, m2, m3_, _⟩ := m3_bound (a := c.1) (b := y.length) (c := x.length + k) h1 (by omega) hk
  generalize hj : m3 c.1 y.length (x.length + k) = j at m1 m2 m3_
  obtain ⟨n1, n2, n3⟩ := dn_bound x y (j - k) j
  have hz : 0 < alikeN x y (j - k) j → 0 ≤ j - k ∧ j - k ≤ x.length ∧ 0 ≤ j := by
    intro h
    unfold alikeN at h
    split at h
    · next h' => exact ⟨h'.1, h'.2.1, h'.2.2.1⟩
    · omega
  generalize alikeN x y (j - k) j = n at n1 n2 n3 hz
  split
  · next h =>
    obtain ⟨z1, z2, z3⟩ := hz h
    refine ⟨by show -1 ≤ j + n; omega, n3 m2 m1, fun q hq => ?_⟩
    rcases List.mem_cons.mp hq with rfl | hq
    · exact ⟨z1, z2, z3, m2, h, n2⟩
    · exact h2 q hq
  · exact ⟨m1, m2, h2⟩
/-- The runs behind a pointer. -/
def Way (w : World) : Option Addr → List (Int × Int × Int) → Prop
  | q, [] => q = none
  | q, r :: t => ∃ g q', q = some ⟨g, 0, none⟩ ∧ w.heap[g]? = some (.cells #[.int .i64 r.1, .int .i64 r.2.1, .int .i64 r.2.2, .pointer q'] 51 (0, 0)) ∧ Way w q' t
theorem Way.move {w W : World} (h : ∀ (g : Nat) (cs : Array Value), w.heap[g]? = some (.cells cs 51 (0, 0)) → W.heap[g]? = some (.cells cs 51 (0, 0))) : ∀ {l : List (Int × Int × Int)} {q : Option Addr}, Way w q l → Way W q l
  | [], _, hw => hw
  | r :: t, q, ⟨g, q', e, hg, ht⟩ => ⟨g, q', e, h g _ hg, Way.move h ht⟩
theorem Way.below {w W : World} (hb : Below w.heap.size w W) {l : List (Int × Int × Int)} {q : Option Addr} (h : Way w q l) : Way W q l := Way.move (fun _ _ hg => blk_below hg hb) h
theorem Way.set {w : World} {ga i : Nat} {arr : Array Value} (hA : w.heap[ga]? = some (.cells arr 49 (0, 0))) (u : Value) {l : List (Int × Int × Int)} {q : Option Addr} (h : Way w q l) : Way (w.setCell ⟨ga, i, none⟩ u) q l :=
  Way.move (fun _ _ hg => blk_far hg (p := ⟨ga, i, none⟩) (blk_ne hg hA (by decide)) u) h
/-- A row of reaches. -/
def RowAt (w : World) (A : Option Addr) (L : List Rch) : Prop :=
  L = [] ∨ ∃ g arr, A = some ⟨g, 0, none⟩ ∧ w.heap[g]? = some (.cells arr 49 (0, 0)) ∧ 2 * L.length ≤ arr.size ∧ ∀ (i : Nat) (r : Rch), L[i]? = some r → ∃ q, arr[i * 2]? = some (.int .i64 r.1) ∧ arr[i * 2 + 1]? = some (.pointer q) ∧ Way w q r.2
theorem RowAt.below {w W : World} (hb : Below w.heap.size w W) {A : Option Addr} {L : List Rch} (h : RowAt w A L) : RowAt W A L := by
  rcases h with h | ⟨g, arr, e, hg, hs, hr⟩
  · exact .inl h
  · exact .inr ⟨g, arr, e, blk_below hg hb, hs, fun i r hi => by obtain ⟨q, h1, h2, h3⟩ := hr i r hi; exact ⟨q, h1, h2, h3.below hb⟩⟩
theorem RowAt.reads {w : World} {A : Option Addr} {L : List Rch} (h : RowAt w A L) (hl : L.length ≤ 1000000000) : ∃ rows : Nat → Int × Option Addr, Reads w A L.length rows ∧ ∀ i (hi : i < L.length), (rows i).1 = L[i].1 ∧ Way w (rows i).2 L[i].2 := by
  rcases h with rfl | ⟨g, arr, rfl, hg, hs, hr⟩
  · exact ⟨fun _ => (0, none), ⟨by simp, fun i hi => absurd hi (by simp)⟩, fun i hi => absurd hi (by simp)⟩
  · have hc : ∀ i : Nat, ∃ c : Int × Option Addr, ∀ hi : i < L.length, arr[i * 2]? = some (.int .i64 c.1) ∧ arr[i * 2 + 1]? = some (.pointer c.2) ∧ c.1 = L[i].1 ∧ Way w c.2 L[i].2 := by
      intro i
      by_cases hi : i < L.length
      · obtain ⟨q, h1, h2, h3⟩ := hr i _ (List.getElem?_eq_getElem hi)
        exact ⟨(L[i].1, q), fun _ => ⟨h1, h2, rfl, h3⟩⟩
      · exact ⟨(0, none), fun h => absurd h hi⟩
    obtain ⟨rows, hrows⟩ := Classical.axiomOfChoice hc
    refine ⟨rows, ⟨by omega, fun i hi => ⟨_, rfl, ?_, ?_⟩⟩, fun i hi => ⟨(hrows i hi).2.2.1, (hrows i hi).2.2.2⟩⟩
    · rw [add_plain]; exact (blk_cell hg _).trans (hrows i hi).1
    · rw [add_plain]; exact (blk_cell hg _).trans (hrows i hi).2.1
theorem at_rel {w : World} {L : List Rch} {rows : Nat → Int × Option Addr} (h : ∀ i (hi : i < L.length), (rows i).1 = L[i].1 ∧ Way w (rows i).2 L[i].2) (first k : Int) :
    (atR first L.length rows k).1 = (atL first L k).1 ∧ Way w (atR first L.length rows k).2 (atL first L k).2 := by
  unfold atR atL
  split
  · exact ⟨rfl, rfl⟩
  · split
    · exact ⟨rfl, rfl⟩
    · next h1 h2 =>
      have hi : (k - first).toNat < L.length := by omega
      rw [List.getD_eq_getElem?_getD, List.getElem?_eq_getElem hi]
      exact h _ hi
/-- front.at, over a row of reaches. -/
theorem onp_at.row (first : Int) (A : Option Addr) (n c : Nat) (L : List Rch) (hL : L.length = n) (k : Int) (w : World) (h : RowAt w A L) (hn : L.length ≤ 1000000000) (h1 : -1000000000 ≤ first) (h2 : first ≤ 1000000000) (h3 : -1000000000 ≤ k) (h4 : k ≤ 1000000000) :
    Calls Try.prog 29 #[.agg #[.int .i64 first, .slice A n c], .int .i64 k] w fun e w' => ∃ q, e = .returned (.agg #[.int .i64 (atL first L k).1, .pointer q]) ∧ Way w' q (atL first L k).2 ∧ Below w.heap.size w w' := by
  subst hL
  obtain ⟨rows, hr, hrel⟩ := h.reads hn
  refine (onp_at.calls first A L.length c rows k w hr hn h1 h2 h3 h4).mono fun e w' ⟨he, hb⟩ => ?_
  obtain ⟨e1, e2⟩ := at_rel hrel first k
  exact ⟨_, by rw [he, rc, e1], e2.below hb, hb⟩

/-! ### of onp, by hand: Nx -/
theorem RowAt.set {w : World} {ga : Nat} {L : List Rch} (h : RowAt w (some ⟨ga, 0, none⟩) L) {i : Nat} (hi : i < L.length) {r : Rch} {q : Option Addr} (hq : Way w q r.2) :
    RowAt ((w.setCell ⟨ga, i * 2, none⟩ (.int .i64 r.1)).setCell ⟨ga, i * 2 + 1, none⟩ (.pointer q)) (some ⟨ga, 0, none⟩) (L.set i r) := by
  rcases h with rfl | ⟨g, arr, e, hg, hs, hr⟩
  · simp at hi
  · obtain rfl : ga = g := by injection e with e; injection e
    have b1 := blk_set hg (i * 2) (.int .i64 r.1)
    have b2 := blk_set b1 (i * 2 + 1) (.pointer q)
    refine .inr ⟨ga, _, rfl, b2, by simpa using hs, fun j s hj => ?_⟩
    by_cases hij : i = j
    · subst hij
      rw [List.getElem?_set_self hi] at hj
      obtain rfl := Option.some.inj hj
      refine ⟨q, ?_, ?_, Way.set b1 _ (Way.set hg _ hq)⟩
      · rw [Array.getElem?_setIfInBounds_ne (by omega), Array.getElem?_setIfInBounds_self_of_lt (by omega)]
      · rw [Array.getElem?_setIfInBounds_self_of_lt (by simp; omega)]
    · rw [List.getElem?_set_ne hij] at hj
      obtain ⟨p, h1, h2, h3⟩ := hr j s hj
      refine ⟨p, ?_, ?_, Way.set b1 _ (Way.set hg _ h3)⟩
      · rw [Array.getElem?_setIfInBounds_ne (by omega), Array.getElem?_setIfInBounds_ne (by omega)]; exact h1
      · rw [Array.getElem?_setIfInBounds_ne (by omega), Array.getElem?_setIfInBounds_ne (by omega)]; exact h2
theorem RowAt.arr {w : World} {ga : Nat} {L : List Rch} (h : RowAt w (some ⟨ga, 0, none⟩) L) (hl : 0 < L.length) : ∃ arr, w.heap[ga]? = some (.cells arr 49 (0, 0)) ∧ 2 * L.length ≤ arr.size := by
  rcases h with rfl | ⟨g, arr, e, hg, hs, hr⟩
  · simp at hl
  · obtain rfl : ga = g := by injection e with e; injection e
    exact ⟨arr, hg, hs⟩
/-- What of the step's end is meant. -/
theorem StPost.row {x y : List Int} {k : Int} {i : Nat} {w w' : World} {ga : Nat} {L : List Rch} {b l r : Int × Option Addr} {bb ll rr : Rch} (h : StPost w ga i (st2 (st1 b l) r) k (m3 (st2 (st1 b l) r).1 y.length (x.length + k)) (alikeN x y (m3 (st2 (st1 b l) r).1 y.length (x.length + k) - k) (m3 (st2 (st1 b l) r).1 y.length (x.length + k))) w')
    (hb : b.1 = bb.1 ∧ Way w b.2 bb.2) (hl : l.1 = ll.1 ∧ Way w l.2 ll.2) (hr : r.1 = rr.1 ∧ Way w r.2 rr.2) (hrow : RowAt w (some ⟨ga, 0, none⟩) L) (hi : i < L.length) :
    RowAt w' (some ⟨ga, 0, none⟩) (L.set i (stp x y k bb ll rr)) ∧ ∃ W, Below w.heap.size w W ∧ ∃ u v, w' = (W.setCell ⟨ga, i * 2, none⟩ u).setCell ⟨ga, i * 2 + 1, none⟩ v := by
  have h1 : (st1 b l).1 = (as1 bb ll).1 ∧ Way w (st1 b l).2 (as1 bb ll).2 := by
    unfold st1 as1
    rw [hl.1, hb.1]
    split
    · exact ⟨rfl, hl.2⟩
    · exact hb
  generalize st1 b l = c at h h1
  have h2 : (st2 c r).1 = (as2 (as1 bb ll) rr).1 ∧ Way w (st2 c r).2 (as2 (as1 bb ll) rr).2 := by
    unfold st2 as2
    rw [hr.1, h1.1]
    split
    · exact hr
    · exact h1
  obtain ⟨W, q, hW, rfl, hq⟩ := h
  rw [h2.1] at hq ⊢
  refine ⟨?_, W, hW, _, _, rfl⟩
  unfold stp
  generalize m3 (as2 (as1 bb ll) rr).1 y.length (x.length + k) = j at hq ⊢
  generalize alikeN x y (j - k) j = n at hq ⊢
  have hR := hrow.below hW
  rcases hq with ⟨hn, g, rfl, hg⟩ | ⟨hn, rfl⟩
  · rw [if_pos hn, if_pos hn]
    exact hR.set hi (r := (j + n, (j - k, j, n) :: (as2 (as1 bb ll) rr).2)) ⟨g, _, rfl, hg, h2.2.below hW⟩
  · rw [if_neg hn, if_neg hn]
    exact hR.set hi (r := (j, (as2 (as1 bb ll) rr).2)) (h2.2.below hW)
/-- next's own variables, and where they lie. -/
def NxS (w0 W : World) (gw gy gx gn gp g8 ga : Nat) (fw : Int) (Aw : Option Addr) (nw cw : Nat) (Ay : Option Addr) (ny cy : Nat) (Ax : Option Addr) (nx cx : Nat) (p : Int) (m : Nat) : Prop :=
  Below w0.heap.size w0 W ∧ w0.heap.size ≤ ga ∧ W.heap[gw]? = some (.cells #[.int .i64 fw, .slice Aw nw cw] 46 (0, 0)) ∧ W.heap[gy]? = some (.cells #[.slice Ay ny cy] 24 (0, 0)) ∧ W.heap[gx]? = some (.cells #[.slice Ax nx cx] 24 (0, 0)) ∧ W.heap[gn]? = some (.cells #[.int .i64 (-p), .slice (some ⟨ga, 0, none⟩) m m] 46 (0, 0)) ∧ W.heap[gp]? = some (.cells #[.int .i64 p] 3 (0, 0)) ∧ W.heap[g8]? = some (.cells #[.int .i64 0, .slice none 0 0] 46 (0, 0)) ∧ w0.heap.size ≤ g8
theorem NxS.below {w0 W W' : World} {gw gy gx gn gp g8 ga : Nat} {fw : Int} {Aw : Option Addr} {nw cw : Nat} {Ay : Option Addr} {ny cy : Nat} {Ax : Option Addr} {nx cx : Nat} {p : Int} {m : Nat} (h : NxS w0 W gw gy gx gn gp g8 ga fw Aw nw cw Ay ny cy Ax nx cx p m) (hb : Below W.heap.size W W') : NxS w0 W' gw gy gx gn gp g8 ga fw Aw nw cw Ay ny cy Ax nx cx p m :=
  ⟨below_step h.1 hb, h.2.1, blk_below h.2.2.1 hb, blk_below h.2.2.2.1 hb, blk_below h.2.2.2.2.1 hb, blk_below h.2.2.2.2.2.1 hb, blk_below h.2.2.2.2.2.2.1 hb, blk_below h.2.2.2.2.2.2.2.1 hb, h.2.2.2.2.2.2.2.2⟩
theorem NxS.bel {w0 W : World} {gw gy gx gn gp g8 ga : Nat} {fw : Int} {Aw : Option Addr} {nw cw : Nat} {Ay : Option Addr} {ny cy : Nat} {Ax : Option Addr} {nx cx : Nat} {p : Int} {m : Nat} (h : NxS w0 W gw gy gx gn gp g8 ga fw Aw nw cw Ay ny cy Ax nx cx p m) : Below w0.heap.size w0 W := h.1
theorem NxS.set {w0 W : World} {gw gy gx gn gp g8 ga : Nat} {fw : Int} {Aw : Option Addr} {nw cw : Nat} {Ay : Option Addr} {ny cy : Nat} {Ax : Option Addr} {nx cx : Nat} {p : Int} {m : Nat} (h : NxS w0 W gw gy gx gn gp g8 ga fw Aw nw cw Ay ny cy Ax nx cx p m) {arr : Array Value} (hA : W.heap[ga]? = some (.cells arr 49 (0, 0))) (i : Nat) (u : Value) : NxS w0 (W.setCell ⟨ga, i, none⟩ u) gw gy gx gn gp g8 ga fw Aw nw cw Ay ny cy Ax nx cx p m :=
  have f : ∀ {g : Nat} {t : TypeId} {cs : Array Value}, W.heap[g]? = some (.cells cs t (0, 0)) → t ≠ 49 → (W.setCell ⟨ga, i, none⟩ u).heap[g]? = some (.cells cs t (0, 0)) := fun hg ht => blk_far hg (p := ⟨ga, i, none⟩) (blk_ne hg hA ht) u
  ⟨below_set h.1 h.2.1, h.2.1, f h.2.2.1 (by decide), f h.2.2.2.1 (by decide), f h.2.2.2.2.1 (by decide), f h.2.2.2.2.2.1 (by decide), f h.2.2.2.2.2.2.1 (by decide), f h.2.2.2.2.2.2.2.1 (by decide), h.2.2.2.2.2.2.2.2⟩
theorem onp_step.abs (x y : List Int) (hxl : x.length ≤ 1000000) (hyl : y.length ≤ 1000000) (k : Int) (p : Nat) (lq rq : Option Addr) (ll rr : Rch) (w0 W : World) (gw gy gx gn gp g8 ga : Nat) (fw : Int) (Aw : Option Addr) (cw : Nat) (Lw : List Rch) (Ay : Option Addr) (cy : Nat) (Ax : Option Addr) (cx m : Nat) (L : List Rch) (hLm : L.length = m)
    (hs : NxS w0 W gw gy gx gn gp g8 ga fw Aw Lw.length cw Ay y.length cy Ax x.length cx p m) (hrow : RowAt W (some ⟨ga, 0, none⟩) L)
    (hx : Kd.C (Kd.int .i64) w0 Ax x.length x) (hcx : x.length ≤ cx) (hy : Kd.C (Kd.int .i64) w0 Ay y.length y) (hcy : y.length ≤ cy) (hw : RowAt w0 Aw Lw)
    (hnw : Lw.length ≤ 1000000000) (f1 : -1000000000 ≤ fw) (f2 : fw ≤ 1000000000) (hp : p ≤ x.length) (k0 : 0 ≤ k + p) (k1 : k + p < m) (hm : m ≤ 10000000) (hbw : ∀ r, r ∈ Lw → Bd x y r)
    (hl : Way W lq ll.2) (hlb : Bd x y ll) (hr : Way W rq rr.2) (hrb : Bd x y rr) :
    Calls Try.prog 31 #[.int .i64 k, .agg #[.int .i64 ll.1, .pointer lq], .agg #[.int .i64 rr.1, .pointer rq], .pointer (some ⟨gw, 0, none⟩), .pointer (some ⟨gy, 0, none⟩), .pointer (some ⟨gx, 0, none⟩), .pointer (some ⟨gn, 0, none⟩), .pointer (some ⟨gp, 0, none⟩)] W fun e w' => e = .returned (.tuple #[]) ∧ NxS w0 w' gw gy gx gn gp g8 ga fw Aw Lw.length cw Ay y.length cy Ax x.length cx p m ∧ RowAt w' (some ⟨ga, 0, none⟩) (L.set (k + p).toNat (stp x y k (atL fw Lw k) ll rr)) := by
  subst hLm
  obtain ⟨arr, hA, hsz⟩ := hrow.arr (by omega)
  have hwW := hw.below hs.1
  obtain ⟨rows, hrd, hrel⟩ := hwW.reads hnw
  have hb := at_rel hrel fw k
  have hrb2 : ∀ i, i < Lw.length → -1 ≤ (rows i).1 ∧ (rows i).1 ≤ 1000000000 := fun i hi => by
    have h := hbw _ (List.getElem_mem hi)
    rw [(hrel i hi).1]
    exact ⟨h.1, by have := h.2.1; omega⟩
  have l2 := hlb.2.1
  have r2 := hrb.2.1
  have hd := dn_bound x y (m3 (st2 (st1 (atR fw Lw.length rows k) (ll.1, lq)) (rr.1, rq)).1 y.length (x.length + k) - k) (m3 (st2 (st1 (atR fw Lw.length rows k) (ll.1, lq)) (rr.1, rq)).1 y.length (x.length + k))
  refine (onp_step.calls (x.length + 1) k p (ll.1, lq) (rr.1, rq) gw gy gx gn gp ga fw Aw Lw.length cw rows Ax Ay cx cy x y L.length L.length arr _ W hs.2.2.1 hs.2.2.2.1 hs.2.2.2.2.1 hs.2.2.2.2.2.1 hs.2.2.2.2.2.2.1 hA (Kd.C_below hx hs.1) hcx (Kd.C_below hy hs.1) hcy hrd hnw f1 f2 (by omega) (by omega) hlb.1 (by show ll.1 ≤ _; omega) hrb.1 (by show rr.1 ≤ _; omega) k0 k1 (by omega) hsz hrb2 (by omega) (by omega) hd.1 (by omega) (dn_f x y hxl hyl _ _)).mono fun e w' ⟨he, hp⟩ => ?_
  obtain ⟨h1, W1, hW1, u, v, rfl⟩ := hp.row (bb := atL fw Lw k) (ll := ll) (rr := rr) hb ⟨rfl, hl⟩ ⟨rfl, hr⟩ hrow (by omega)
  exact ⟨he, ((hs.below hW1).set (blk_below hA hW1) _ _).set (blk_set (blk_below hA hW1) _ _) _ _, h1⟩

/-! ### of onp, by hand: Nx2 -/
def nxLow (x y : List Int) (p : Nat) (fw : Int) (Lw : List Rch) : Nat → List Rch
  | 0 => List.replicate (y.length - x.length + 2 * p + 1) far0
  | i + 1 => (nxLow x y p fw Lw i).set i (stp x y (i - p) (atL fw Lw (i - p)) (atL (-p) (nxLow x y p fw Lw i) (i - p - 1)) (atL fw Lw (i - p + 1)))
def nxHigh (x y : List Int) (p : Nat) (fw : Int) (Lw : List Rch) : Nat → List Rch
  | 0 => nxLow x y p fw Lw (y.length - x.length + p)
  | i + 1 => (nxHigh x y p fw Lw i).set (y.length - x.length + 2 * p - i) (stp x y (y.length - x.length + p - i) (atL fw Lw (y.length - x.length + p - i)) (atL fw Lw (y.length - x.length + p - i - 1)) (atL (-p) (nxHigh x y p fw Lw i) (y.length - x.length + p - i + 1)))
/-- How far the diagonals come at the next cost. -/
def nx (x y : List Int) (p : Nat) (fw : Int) (Lw : List Rch) : List Rch :=
  (nxHigh x y p fw Lw p).set (y.length - x.length + p) (stp x y (y.length - x.length) (atL fw Lw (y.length - x.length)) (atL (-p) (nxHigh x y p fw Lw p) (y.length - x.length - 1)) (atL (-p) (nxHigh x y p fw Lw p) (y.length - x.length + 1)))
theorem nxLow_len (x y : List Int) (p : Nat) (fw : Int) (Lw : List Rch) : ∀ i, (nxLow x y p fw Lw i).length = y.length - x.length + 2 * p + 1
  | 0 => by simp [nxLow]
  | i + 1 => by rw [nxLow, List.length_set, nxLow_len x y p fw Lw i]
theorem nxHigh_len (x y : List Int) (p : Nat) (fw : Int) (Lw : List Rch) : ∀ i, (nxHigh x y p fw Lw i).length = y.length - x.length + 2 * p + 1
  | 0 => nxLow_len x y p fw Lw _
  | i + 1 => by rw [nxHigh, List.length_set, nxHigh_len x y p fw Lw i]
theorem nx_len (x y : List Int) (p : Nat) (fw : Int) (Lw : List Rch) : (nx x y p fw Lw).length = y.length - x.length + 2 * p + 1 := by
  rw [nx, List.length_set, nxHigh_len]
theorem Bd_set {x y : List Int} {L : List Rch} {i : Nat} {r : Rch} (h : ∀ q, q ∈ L → Bd x y q) (hr : Bd x y r) : ∀ q, q ∈ L.set i r → Bd x y q := fun q hq => by
  rcases List.mem_or_eq_of_mem_set hq with hq | rfl
  · exact h q hq
  · exact hr
theorem nxLow_bd (x y : List Int) (p : Nat) (fw : Int) (Lw : List Rch) (hp : p ≤ x.length) (hw : ∀ r, r ∈ Lw → Bd x y r) : ∀ i, ∀ q, q ∈ nxLow x y p fw Lw i → Bd x y q
  | 0 => fun q hq => by rw [nxLow] at hq; rw [List.eq_of_mem_replicate hq]; exact Bd_far0 x y
  | i + 1 => by
    have h := nxLow_bd x y p fw Lw hp hw i
    rw [nxLow]
    exact Bd_set h (Bd_stp (Bd_atL hw) (Bd_atL h) (Bd_atL hw) (by omega))
theorem nxHigh_bd (x y : List Int) (p : Nat) (fw : Int) (Lw : List Rch) (hp : p ≤ x.length) (hw : ∀ r, r ∈ Lw → Bd x y r) (hxy : x.length ≤ y.length) : ∀ i, i ≤ p → ∀ q, q ∈ nxHigh x y p fw Lw i → Bd x y q
  | 0, _ => nxLow_bd x y p fw Lw hp hw _
  | i + 1, hi => by
    have h := nxHigh_bd x y p fw Lw hp hw hxy i (by omega)
    rw [nxHigh]
    exact Bd_set h (Bd_stp (Bd_atL hw) (Bd_atL hw) (Bd_atL h) (by omega))
theorem nx_bd (x y : List Int) (p : Nat) (fw : Int) (Lw : List Rch) (hp : p ≤ x.length) (hw : ∀ r, r ∈ Lw → Bd x y r) (hxy : x.length ≤ y.length) : ∀ q, q ∈ nx x y p fw Lw → Bd x y q := by
  have h := nxHigh_bd x y p fw Lw hp hw hxy p (Nat.le_refl p)
  rw [nx]
  exact Bd_set h (Bd_stp (Bd_atL hw) (Bd_atL h) (Bd_atL h) (by omega))
theorem info49_ : (Try.prog.info? 49).map (fun i => (i.zero, i.size, i.bytes)) = some (some (.agg #[.int .i64 0, .pointer none]), 2, 16) := by kernel_rfl
/-- A row as it is made. -/
theorem row_made {w : World} {g m : Nat} (h : w.heap[g]? = some (.cells (madeCells #[.int .i64 0, .pointer none] (m * 2)) 49 (0, 0))) : RowAt w (some ⟨g, 0, none⟩) (List.replicate m ((0, []) : Rch)) := by
  refine .inr ⟨g, _, rfl, h, by simp [size_madeCells]; omega, fun i r hi => ?_⟩
  obtain ⟨hl, hr⟩ := List.getElem?_eq_some_iff.1 hi
  simp at hl hr
  subst hr
  refine ⟨none, ?_, ?_, rfl⟩
  · rw [Array.getElem?_eq_getElem (by simp [size_madeCells]; omega)]
    simp [madeCells]
  · rw [Array.getElem?_eq_getElem (by simp [size_madeCells]; omega)]
    simp [madeCells, Nat.mul_add_mod]

/-! ### of onp, by hand: Nx3 -/
theorem five_new (w : World) (o1 o2 o3 o4 o5 : Obj) : ((((((w.alloc o1).alloc o2).alloc o3).alloc o4).alloc o5).heap[w.heap.size]? = some o1 ∧ (((((w.alloc o1).alloc o2).alloc o3).alloc o4).alloc o5).heap[w.heap.size + 1]? = some o2 ∧ (((((w.alloc o1).alloc o2).alloc o3).alloc o4).alloc o5).heap[w.heap.size + 1 + 1]? = some o3 ∧ (((((w.alloc o1).alloc o2).alloc o3).alloc o4).alloc o5).heap[w.heap.size + 1 + 1 + 1]? = some o4 ∧ (((((w.alloc o1).alloc o2).alloc o3).alloc o4).alloc o5).heap[w.heap.size + 1 + 1 + 1 + 1]? = some o5) ∧ Below w.heap.size w (((((w.alloc o1).alloc o2).alloc o3).alloc o4).alloc o5) := by
  have s := fun (W : World) (o o' : Obj) => blk_below (blk_new W o) (below_alloc (Below.refl _ _) o')
  have e : ∀ (W : World) (o : Obj), (W.alloc o).heap.size = W.heap.size + 1 := alloc_size
  have k : ∀ {W : World} {g : Nat} {o : Obj} (o' : Obj), W.heap[g]? = some o → (W.alloc o').heap[g]? = some o := fun o' h => blk_below h (below_alloc (Below.refl _ _) o')
  have h1 := blk_new w o1
  have h2 := blk_new (w.alloc o1) o2
  have h3 := blk_new ((w.alloc o1).alloc o2) o3
  have h4 := blk_new (((w.alloc o1).alloc o2).alloc o3) o4
  have h5 := blk_new ((((w.alloc o1).alloc o2).alloc o3).alloc o4) o5
  rw [e] at h2
  rw [e, e] at h3
  rw [e, e, e] at h4
  rw [e, e, e, e] at h5
  exact ⟨⟨k _ (k _ (k _ (k _ h1))), k _ (k _ (k _ h2)), k _ (k _ h3), k _ h4, h5⟩, below_alloc (below_alloc (below_alloc (below_alloc (below_alloc (Below.refl _ _) o1) o2) o3) o4) o5⟩
theorem nxs_mk {w0 W W' : World} {gw gy gx gn gp g8 ga : Nat} {fw : Int} {Aw : Option Addr} {nw cw : Nat} {Ay : Option Addr} {ny cy : Nat} {Ax : Option Addr} {nx cx : Nat} {p : Int} {m : Nat}
    (h : W.heap[gx]? = some (Obj.cells #[.slice Ax nx cx] 24 (0, 0)) ∧ W.heap[gy]? = some (Obj.cells #[.slice Ay ny cy] 24 (0, 0)) ∧ W.heap[gp]? = some (Obj.cells #[.int .i64 p] 3 (0, 0)) ∧ W.heap[gw]? = some (Obj.cells #[.int .i64 fw, .slice Aw nw cw] 46 (0, 0)) ∧ W.heap[g8]? = some (Obj.cells #[.int .i64 0, .slice none 0 0] 46 (0, 0)) ∧ Below w0.heap.size w0 W ∧ w0.heap.size ≤ g8)
    (hb : Below W.heap.size W W') (hga : w0.heap.size ≤ ga) (hgn : W'.heap[gn]? = some (Obj.cells #[.int .i64 (-p), .slice (some ⟨ga, 0, none⟩) m m] 46 (0, 0))) : NxS w0 W' gw gy gx gn gp g8 ga fw Aw nw cw Ay ny cy Ax nx cx p m :=
  ⟨below_step h.2.2.2.2.2.1 hb, hga, blk_below h.2.2.2.1 hb, blk_below h.2.1 hb, blk_below h.1 hb, hgn, blk_below h.2.2.1 hb, blk_below h.2.2.2.2.1 hb, h.2.2.2.2.2.2⟩
theorem RowAt.cell {w : World} {ga : Nat} {L : List Rch} (h : RowAt w (some ⟨ga, 0, none⟩) L) {i : Nat} (hi : i < L.length) : (∃ u, w.cell? ⟨ga, i * 2, none⟩ = some u) ∧ (∃ u, w.cell? ⟨ga, i * 2 + 1, none⟩ = some u) ∧ w.frozen? ⟨ga, i * 2, none⟩ = false ∧ w.frozen? ⟨ga, i * 2 + 1, none⟩ = false := by
  obtain ⟨arr, h1, h2⟩ := h.arr (by omega)
  exact ⟨⟨_, (blk_cell h1 _).trans (Array.getElem?_eq_getElem (by omega))⟩, ⟨_, (blk_cell h1 _).trans (Array.getElem?_eq_getElem (by omega))⟩, blk_frozen h1 _, blk_frozen h1 _⟩
theorem first_set (m i : Nat) (hi : i < m) : (List.replicate i far0 ++ List.replicate (m - i) ((0, []) : Rch)).set i far0 = List.replicate (i + 1) far0 ++ List.replicate (m - (i + 1)) (0, []) := by
  obtain ⟨d, hd⟩ : ∃ d, m - i = d + 1 := ⟨m - i - 1, by omega⟩
  rw [hd, show m - (i + 1) = d by omega, List.replicate_succ, List.set_append_right _ _ (by simp), List.replicate_succ' , List.append_assoc]
  simp
theorem NxS.set2 {w0 W : World} {gw gy gx gn gp g8 ga : Nat} {fw : Int} {Aw : Option Addr} {nw cw : Nat} {Ay : Option Addr} {ny cy : Nat} {Ax : Option Addr} {nx cx : Nat} {p : Int} {m : Nat} (h : NxS w0 W gw gy gx gn gp g8 ga fw Aw nw cw Ay ny cy Ax nx cx p m) {L : List Rch} (hr : RowAt W (some ⟨ga, 0, none⟩) L) (hl : 0 < L.length) (i j : Nat) (u v : Value) : NxS w0 ((W.setCell ⟨ga, i, none⟩ u).setCell ⟨ga, j, none⟩ v) gw gy gx gn gp g8 ga fw Aw nw cw Ay ny cy Ax nx cx p m := by
  obtain ⟨arr, h1, h2⟩ := hr.arr hl
  exact (h.set h1 i u).set (blk_set h1 i u) j v
theorem RowAt.far {w : World} {A : Option Addr} {L : List Rch} (h : RowAt w A L) {g t : Nat} {cs : Array Value} (hg : w.heap[g]? = some (.cells cs t (0, 0))) (h1 : t ≠ 49) (h2 : t ≠ 51) (i : Nat) (u : Value) : RowAt (w.setCell ⟨g, i, none⟩ u) A L := by
  rcases h with h | ⟨g', arr, e, hr, hs, hrow⟩
  · exact .inl h
  · refine .inr ⟨g', arr, e, blk_far hr (p := ⟨g, i, none⟩) (blk_ne hr hg (Ne.symm h1)) u, hs, fun j r hj => ?_⟩
    obtain ⟨q, a1, a2, a3⟩ := hrow j r hj
    exact ⟨q, a1, a2, Way.move (fun _ _ hk => blk_far hk (p := ⟨g, i, none⟩) (blk_ne hk hg (Ne.symm h2)) u) a3⟩
theorem two_new (w : World) (o1 o2 : Obj) : ((w.alloc o1).alloc o2).drew.heap[w.heap.size]? = some o1 ∧ ((w.alloc o1).alloc o2).drew.heap[w.heap.size + 1]? = some o2 ∧ Below w.heap.size w ((w.alloc o1).alloc o2).drew :=
  ⟨blk_below (blk_new w o1) (below_drew (below_alloc (Below.refl _ _) o2)), by have h := blk_new (w.alloc o1) o2; rw [alloc_size] at h; exact h, below_drew (below_alloc (below_alloc (Below.refl _ _) o1) o2)⟩
set_option maxHeartbeats 8000000 in
set_option maxRecDepth 100000 in
theorem onp_next.calls (x y : List Int) (p : Nat) (fw : Int) (Aw : Option Addr) (cw : Nat) (Lw : List Rch) (Ax : Option Addr) (cx : Nat) (Ay : Option Addr) (cy : Nat) (w : World) (hx : Kd.C (Kd.int .i64) w Ax x.length x) (hcx : x.length ≤ cx) (hy : Kd.C (Kd.int .i64) w Ay y.length y) (hcy : y.length ≤ cy) (hw : RowAt w Aw Lw)
    (hxy : x.length ≤ y.length) (hyl : y.length ≤ 1000000) (hp : p ≤ x.length) (hnw : Lw.length ≤ 1000000000) (f1 : -1000000000 ≤ fw) (f2 : fw ≤ 1000000000) (hbw : ∀ r, r ∈ Lw → Bd x y r) :
    Calls Try.prog 24 #[.slice Ax x.length cx, .slice Ay y.length cy, .int .i64 p, .agg #[.int .i64 fw, .slice Aw Lw.length cw]] w fun e w' => ∃ g, e = .returned (.agg #[.int .i64 (-p), .slice (some ⟨g, 0, none⟩) (nx x y p fw Lw).length (nx x y p fw Lw).length]) ∧ RowAt w' (some ⟨g, 0, none⟩) (nx x y p fw Lw) ∧ Below w.heap.size w w' := by
  obtain ⟨m, hm⟩ : ∃ m, m = y.length - x.length + 2 * p + 1 := ⟨_, rfl⟩
  have hmk : ∀ W : World, (Instr.makeSlice 44 (.int .i64 ((y.length : Int) - x.length + 2 * p + 1)) (.int .i64 ((y.length : Int) - x.length + 2 * p + 1))).run Try.prog W = .ok (.slice (some ⟨W.heap.size, 0, none⟩) m m) (W.alloc (.cells (madeCells #[.int .i64 0, .pointer none] (m * 2)) 49)) := by
    intro W
    obtain ⟨i0, hi, hzz⟩ := Option.map_eq_some_iff.1 info49_
    simp only [Prod.mk.injEq] at hzz
    obtain ⟨hz0, hz1, hz2⟩ := hzz
    have hr := run_make (P := Try.prog) W 44 49 i0 _ Try.underlying44 hi hz0 .i64 .i64 (m : Int) (m : Int) (by omega) (by omega) (by rw [hz2]; omega) (by omega)
    rw [hz1] at hr
    rw [show ((y.length : Int) - x.length + 2 * p + 1) = (m : Int) by omega]
    exact hr
  have hmb : m ≤ 3000001 := by omega
  have HM := Aside0.mk hm
  have HX := Aside0.mk hx
  have HY := Aside0.mk hy
  have HW := Aside0.mk hw
  have HCX := Aside0.mk hcx
  have HCY := Aside0.mk hcy
  have HBW := Aside0.mk hbw
  clear hx hy hw hcx hcy hbw hm
  go_enter Try.func24, Try.ntmps24
  try dsimp only [List.append]
  go_upto_region 2 with fail
  have H5 := five_new w (.cells #[.slice Ax x.length cx] 24) (.cells #[.slice Ay y.length cy] 24) (.cells #[.int .i64 (p : Int)] 3) (.cells #[.int .i64 fw, .slice Aw Lw.length cw] 46) (.cells #[.int .i64 0, .slice none 0 0] 46)
  generalize ((((w.alloc (.cells #[.slice Ax x.length cx] 24)).alloc (.cells #[.slice Ay y.length cy] 24)).alloc (.cells #[.int .i64 (p : Int)] 3)).alloc (.cells #[.int .i64 fw, .slice Aw Lw.length cw] 46)).alloc (.cells #[.int .i64 0, .slice none 0 0] 46) = wx at H5 ⊢
  obtain ⟨⟨K1, K2, K3, K4, K5⟩, KB⟩ := H5
  have KG := Nat.le_refl w.heap.size
  have KG8 : w.heap.size ≤ w.heap.size + 1 + 1 + 1 + 1 := by omega
  generalize w.heap.size + 1 + 1 + 1 + 1 = g8 at K5 KG8 ⊢
  generalize w.heap.size + 1 + 1 + 1 = gw at K4 ⊢
  generalize w.heap.size + 1 + 1 = gp at K3 ⊢
  generalize w.heap.size + 1 = gy at K2 ⊢
  generalize hgx : w.heap.size = gx at K1 ⊢
  clear KG hgx
  have HK := Aside0.mk (And.intro K1 (And.intro K2 (And.intro K3 (And.intro K4 (And.intro K5 (And.intro KB KG8))))))
  have hpz : wx.cell? ⟨gp, 0, none⟩ = some (.int .i64 p) := (blk_cell K3 0).trans rfl
  clear K1 K2 K3 K4 K5 KB KG8
  have cz1 : IntKind.i64.wrap (2 * (p : Int)) = 2 * p := IntWalk.i64_in _ (by omega)
  have cz2 : IntKind.i64.wrap ((y.length : Int) - x.length + 2 * p) = y.length - x.length + 2 * p := IntWalk.i64_in _ (by omega)
  have cz3 : IntKind.i64.wrap ((y.length : Int) - x.length + 2 * p + 1) = y.length - x.length + 2 * p + 1 := IntWalk.i64_in _ (by omega)
  have cz4 : IntKind.i64.wrap (-(p : Int)) = -(p : Int) := IntWalk.i64_in _ (by omega)
  go_cut [10] (fun s10 wv => ∃ gn ga : Nat, s10 = .pointer (some ⟨gn, 0, none⟩) ∧ Aside0 (NxS w wv gw gy gx gn gp g8 ga fw Aw Lw.length cw Ay y.length cy Ax x.length cx p m) ∧ Aside0 (RowAt wv (some ⟨ga, 0, none⟩) (List.replicate m ((0, []) : Rch))))
  case first =>
    go_region_held3 (fun w' => w'.cell? ⟨gp, 0, none⟩ = some (.int .i64 p)) (first | go_keep | exact pw_cell_below (below_alloc (Below.refl _ _) _) (by assumption)) (fail)
    all_goals clear hmk
    all_goals go_wp2_with fail
    all_goals go_meet
    · exact ⟨_, _, rfl, ⟨nxs_mk HK.out (two_new wx _ _).2.2 (by have := HK.out.2.2.2.2.2.1.size; omega) (two_new wx _ _).2.1⟩, ⟨row_made (two_new wx _ _).1⟩⟩
    · exact ⟨_, _, rfl, ⟨nxs_mk HK.out (two_new wx _ _).2.2 (by have := HK.out.2.2.2.2.2.1.size; omega) (two_new wx _ _).1⟩, ⟨row_made (two_new wx _ _).2.1⟩⟩
  case rest =>
    clear cz1 cz2 cz3 cz4 hpz HK hmk
    obtain ⟨gn, ga, rfl, HS, HR⟩ := hcut
    have hnz1 : wc.cell? ⟨gn, 1, none⟩ = some (.slice (some ⟨ga, 0, none⟩) m m) := (blk_cell HS.out.2.2.2.2.2.1 1).trans rfl
    go_wp2_with fail
    clear hnz1
    go_loopw [32] (fun v wr => ∃ i : Nat, i ≤ m ∧ v = .int .i64 i ∧ Aside0 (NxS w wr gw gy gx gn gp g8 ga fw Aw Lw.length cw Ay y.length cy Ax x.length cx p m) ∧ Aside0 (RowAt wr (some ⟨ga, 0, none⟩) (List.replicate i far0 ++ List.replicate (m - i) ((0, []) : Rch)))) (fun v _ => m - (intOf v).toNat)
    case atStart => exact ⟨0, Nat.zero_le _, rfl, HS, by simpa using HR⟩
    case round =>
      clear HS HR
      obtain ⟨i, hi, rfl, HS, HR⟩ := hrel
      by_cases hlt : i < m
      · have gi0 : (0 : Int) ≤ (i : Int) := by omega
        have gi1 : (i : Int) < (m : Int) := by omega
        have hnz1 : wr.cell? ⟨gn, 1, none⟩ = some (.slice (some ⟨ga, 0, none⟩) m m) := (blk_cell HS.out.2.2.2.2.2.1 1).trans rfl
        go_upto_region 6 with fail
        go_region_held3 (fun w' => w'.cell? ⟨gn, 1, none⟩ = some (.slice (some ⟨ga, 0, none⟩) m m)) (first | go_keep | exact (blk_cell HS.out.2.2.2.2.2.1 1).trans rfl | exact (blk_cell (HS.out.set2 HR.out (by simp; omega) _ _ _ _).2.2.2.2.2.1 1).trans rfl) (first
          | (go_at_call 30; ((with_reducible refine (onp_nowhere.calls _).mono ?_); rintro e w2 ⟨rfl, hb⟩; have n0_ := Aside0.mk (HS.out.below (W := wr) (W' := w2) ⟨hb.os, hb.tape, hb.output, hb.size, hb.block⟩); have n1_ := Aside0.mk (RowAt.below (w := wr) (W := w2) ⟨hb.os, hb.tape, hb.output, hb.size, hb.block⟩ HR.out); clear HS HR hb hnz1; have HS := n0_; have HR := n1_; clear n0_ n1_; obtain ⟨⟨u0, hu0⟩, ⟨u1, hu1⟩, hf0, hf1⟩ := HR.out.cell (i := i) (by simp; omega))))
        go_wp2
        go_roundw
        case rel => exact ⟨i + 1, by omega, by go_num, ⟨HS.out.set2 HR.out (by simp; omega) _ _ _ _⟩, ⟨by rw [← first_set m i hlt]; exact HR.out.set (r := far0) (by simp; omega) rfl⟩⟩
        case measure => simp [intOf]; omega
      · obtain rfl : m = i := by omega
        have HR := Aside0.mk (show RowAt wr (some ⟨ga, 0, none⟩) (nxLow x y p fw Lw 0) by rw [nxLow, ← HM.out]; have := HR.out; rwa [Nat.sub_self, List.replicate_zero, List.append_nil] at this)
        clear hi hlt
        have hpz : wr.cell? ⟨gp, 0, none⟩ = some (.int .i64 p) := (blk_cell HS.out.2.2.2.2.2.2.1 0).trans rfl
        go_wp2_with fail
        have hmw : (m : Int) ≤ y.length - x.length + 2 * p + 1 := by have := HM.out; omega
        have hmw2 : y.length - x.length + 2 * p + 1 ≤ (m : Int) := by have := HM.out; omega
        go_loopw [13] (fun v wr => ∃ i : Nat, (i : Int) - p ≤ y.length - x.length ∧ v = .int .i64 (i - p) ∧ Aside0 (NxS w wr gw gy gx gn gp g8 ga fw Aw Lw.length cw Ay y.length cy Ax x.length cx p m) ∧ Aside0 (RowAt wr (some ⟨ga, 0, none⟩) (nxLow x y p fw Lw i))) (fun v _ => ((y.length : Int) - x.length - intOf v).toNat)
        case atStart => exact ⟨0, by omega, by go_num, HS, HR⟩
        case round =>
          clear HS HR hpz
          obtain ⟨i, hi, rfl, HS, HR⟩ := hrel
          by_cases hlt : (i : Int) - p < y.length - x.length
          · have hll := nxLow_len x y p fw Lw i
            have hbl := Aside0.mk (nxLow_bd x y p fw Lw hp HBW.out i)
            rw [← HM.out] at hll
            have HSET := Aside0.mk (show nxLow x y p fw Lw (i + 1) = _ from nxLow.eq_2 x y p fw Lw i)
            generalize hL : nxLow x y p fw Lw i = L at HR hll hbl HSET
            clear hL
            go_upto_region 12 with fail
            have hnz0 : wr.cell? ⟨gn, 0, none⟩ = some (.int .i64 (-p)) := (blk_cell HS.out.2.2.2.2.2.1 0).trans rfl
            have hnz1 : wr.cell? ⟨gn, 1, none⟩ = some (.slice (some ⟨ga, 0, none⟩) m m) := (blk_cell HS.out.2.2.2.2.2.1 1).trans rfl
            have hwz0 : wr.cell? ⟨gw, 0, none⟩ = some (.int .i64 fw) := (blk_cell HS.out.2.2.1 0).trans rfl
            have hwz1 : wr.cell? ⟨gw, 1, none⟩ = some (.slice Aw Lw.length cw) := (blk_cell HS.out.2.2.1 1).trans rfl
            have cz1 : IntKind.i64.wrap ((i : Int) - p - 1) = (i : Int) - p - 1 := IntWalk.i64_in _ (by omega)
            have cz2 : IntKind.i64.wrap ((i : Int) - p + 1) = (i : Int) - p + 1 := IntWalk.i64_in _ (by omega)
            have n0_ := Aside0.mk (HS.out.below (below_drew (Below.refl _ _)))
            have n1_ := Aside0.mk (RowAt.below (below_drew (Below.refl _ _)) HR.out)
            clear HS HR
            have HS := n0_
            have HR := n1_
            clear n0_ n1_
            go_region_held3 (fun w' => w'.cell? ⟨gn, 0, none⟩ = some (.int .i64 (-p)) ∧ w'.cell? ⟨gn, 1, none⟩ = some (.slice (some ⟨ga, 0, none⟩) m m) ∧ w'.cell? ⟨gw, 0, none⟩ = some (.int .i64 fw) ∧ w'.cell? ⟨gw, 1, none⟩ = some (.slice Aw Lw.length cw))
              (first | go_keep | exact ⟨(blk_cell HS.out.2.2.2.2.2.1 0).trans rfl, (blk_cell HS.out.2.2.2.2.2.1 1).trans rfl, (blk_cell HS.out.2.2.1 0).trans rfl, (blk_cell HS.out.2.2.1 1).trans rfl⟩)
              (first
                | (go_at_call 29; ((with_reducible refine (onp_at.row (-(p : Int)) (some ⟨ga, 0, none⟩) m m L hll ((i : Int) - p - 1) _ HR.out (by omega) (by omega) (by omega) (by omega) (by omega)).mono ?_); rintro e w1_ ⟨q1, rfl, hq, hb⟩; have n0_ := Aside0.mk (HS.out.below hb); have n1_ := Aside0.mk (RowAt.below hb HR.out); (first | (have n2_ := Aside0.mk (Way.below hb HQ2.out); clear HS HR hb HQ2; have HS := n0_; have HR := n1_; have HQ2 := n2_; clear n0_ n1_ n2_) | (clear HS HR hb; have HS := n0_; have HR := n1_; clear n0_ n1_)); have HQ1 := Aside0.mk hq; clear hq; try clear hnz0 hnz1 hwz0 hwz1))
                | (go_at_call 29; ((with_reducible refine (onp_at.row fw Aw Lw.length cw Lw rfl ((i : Int) - p + 1) _ (RowAt.below HS.out.bel HW.out) (by omega) (by omega) (by omega) (by omega) (by omega)).mono ?_); rintro e w2_ ⟨q2, rfl, hq, hb⟩; have n0_ := Aside0.mk (HS.out.below hb); have n1_ := Aside0.mk (RowAt.below hb HR.out); (first | (have n2_ := Aside0.mk (Way.below hb HQ1.out); clear HS HR hb HQ1; have HS := n0_; have HR := n1_; have HQ1 := n2_; clear n0_ n1_ n2_) | (clear HS HR hb; have HS := n0_; have HR := n1_; clear n0_ n1_)); have HQ2 := Aside0.mk hq; clear hq; try clear hnz0 hnz1 hwz0 hwz1))
                | (go_at_call 31; ((with_reducible refine (onp_step.abs x y (by omega) hyl ((i : Int) - p) p q1 q2 (atL (-(p : Int)) L ((i : Int) - p - 1)) (atL fw Lw ((i : Int) - p + 1)) w _ gw gy gx gn gp g8 ga fw Aw cw Lw Ay cy Ax cx m L hll HS.out HR.out HX.out HCX.out HY.out HCY.out HW.out hnw f1 f2 hp (by omega) (by omega) (by omega) HBW.out HQ1.out (Bd_atL hbl.out) HQ2.out (Bd_atL HBW.out)).mono ?_); rintro e w4 ⟨rfl, hs, hr⟩; clear HS HR HQ1 HQ2; have HS := Aside0.mk hs; have HR := Aside0.mk hr; (try clear hs); (try clear hr))))
            all_goals
              go_wp2_with fail
              go_roundw
              case rel => exact ⟨i + 1, by omega, by go_num, HS, ⟨by rw [HSET.out]; have h := HR.out; rwa [show ((i : Int) - p + p).toNat = i by omega] at h⟩⟩
              case measure => simp [intOf]; omega
          · obtain ⟨j, hj⟩ : ∃ j, j = y.length - x.length + p := ⟨_, rfl⟩
            have HR := Aside0.mk (show RowAt wr (some ⟨ga, 0, none⟩) (nxHigh x y p fw Lw 0) by rw [nxHigh]; have := HR.out; rwa [show i = y.length - x.length + p by omega] at this)
            have hpz : wr.cell? ⟨gp, 0, none⟩ = some (.int .i64 p) := (blk_cell HS.out.2.2.2.2.2.2.1 0).trans rfl
            have hie : (i : Int) - p = y.length - x.length := by omega
            clear hi hlt hj
            go_wp2_with fail
            go_loopw [14] (fun v wr => ∃ i : Nat, i ≤ p ∧ v = .int .i64 ((y.length : Int) - x.length + p - i) ∧ Aside0 (NxS w wr gw gy gx gn gp g8 ga fw Aw Lw.length cw Ay y.length cy Ax x.length cx p m) ∧ Aside0 (RowAt wr (some ⟨ga, 0, none⟩) (nxHigh x y p fw Lw i))) (fun v _ => (intOf v - ((y.length : Int) - x.length)).toNat)
            case atStart => exact ⟨0, by omega, by go_num, HS, HR⟩
            case round =>
              clear HS HR hpz hie
              obtain ⟨i, hi, rfl, HS, HR⟩ := hrel
              by_cases hlt : i < p
              · have hlt2 : decide ((y.length : Int) - x.length < (y.length : Int) - x.length + p - i) = true := decide_eq_true (by omega)
                have hll := nxHigh_len x y p fw Lw i
                have hbl := Aside0.mk (nxHigh_bd x y p fw Lw hp HBW.out hxy i (by omega))
                rw [← HM.out] at hll
                have HSET := Aside0.mk (show nxHigh x y p fw Lw (i + 1) = _ from nxHigh.eq_2 x y p fw Lw i)
                generalize hL : nxHigh x y p fw Lw i = L at HR hll hbl HSET
                clear hL
                go_upto_region 16 with fail
                have hnz0 : wr.cell? ⟨gn, 0, none⟩ = some (.int .i64 (-p)) := (blk_cell HS.out.2.2.2.2.2.1 0).trans rfl
                have hnz1 : wr.cell? ⟨gn, 1, none⟩ = some (.slice (some ⟨ga, 0, none⟩) m m) := (blk_cell HS.out.2.2.2.2.2.1 1).trans rfl
                have hwz0 : wr.cell? ⟨gw, 0, none⟩ = some (.int .i64 fw) := (blk_cell HS.out.2.2.1 0).trans rfl
                have hwz1 : wr.cell? ⟨gw, 1, none⟩ = some (.slice Aw Lw.length cw) := (blk_cell HS.out.2.2.1 1).trans rfl
                have cz1 : IntKind.i64.wrap ((y.length : Int) - x.length + p - i - 1) = (y.length : Int) - x.length + p - i - 1 := IntWalk.i64_in _ (by omega)
                have cz2 : IntKind.i64.wrap ((y.length : Int) - x.length + p - i + 1) = (y.length : Int) - x.length + p - i + 1 := IntWalk.i64_in _ (by omega)
                have n0_ := Aside0.mk (HS.out.below (below_drew (Below.refl _ _)))
                have n1_ := Aside0.mk (RowAt.below (below_drew (Below.refl _ _)) HR.out)
                clear HS HR
                have HS := n0_
                have HR := n1_
                clear n0_ n1_
                go_region_held3 (fun w' => w'.cell? ⟨gn, 0, none⟩ = some (.int .i64 (-p)) ∧ w'.cell? ⟨gn, 1, none⟩ = some (.slice (some ⟨ga, 0, none⟩) m m) ∧ w'.cell? ⟨gw, 0, none⟩ = some (.int .i64 fw) ∧ w'.cell? ⟨gw, 1, none⟩ = some (.slice Aw Lw.length cw))
                  (first | go_keep | exact ⟨(blk_cell HS.out.2.2.2.2.2.1 0).trans rfl, (blk_cell HS.out.2.2.2.2.2.1 1).trans rfl, (blk_cell HS.out.2.2.1 0).trans rfl, (blk_cell HS.out.2.2.1 1).trans rfl⟩)
                  (first
                    | (go_at_call 29; ((with_reducible refine (onp_at.row fw Aw Lw.length cw Lw rfl ((y.length : Int) - x.length + p - i - 1) _ (RowAt.below HS.out.bel HW.out) (by omega) (by omega) (by omega) (by omega) (by omega)).mono ?_); rintro e w1_ ⟨q1, rfl, hq, hb⟩; have n0_ := Aside0.mk (HS.out.below hb); have n1_ := Aside0.mk (RowAt.below hb HR.out); (first | (have n2_ := Aside0.mk (Way.below hb HQ2.out); clear HS HR hb HQ2; have HS := n0_; have HR := n1_; have HQ2 := n2_; clear n0_ n1_ n2_) | (clear HS HR hb; have HS := n0_; have HR := n1_; clear n0_ n1_)); have HQ1 := Aside0.mk hq; clear hq; try clear hnz0 hnz1 hwz0 hwz1))
                    | (go_at_call 29; ((with_reducible refine (onp_at.row (-(p : Int)) (some ⟨ga, 0, none⟩) m m L hll ((y.length : Int) - x.length + p - i + 1) _ HR.out (by omega) (by omega) (by omega) (by omega) (by omega)).mono ?_); rintro e w2_ ⟨q2, rfl, hq, hb⟩; have n0_ := Aside0.mk (HS.out.below hb); have n1_ := Aside0.mk (RowAt.below hb HR.out); (first | (have n2_ := Aside0.mk (Way.below hb HQ1.out); clear HS HR hb HQ1; have HS := n0_; have HR := n1_; have HQ1 := n2_; clear n0_ n1_ n2_) | (clear HS HR hb; have HS := n0_; have HR := n1_; clear n0_ n1_)); have HQ2 := Aside0.mk hq; clear hq; try clear hnz0 hnz1 hwz0 hwz1))
                    | (go_at_call 31; ((with_reducible refine (onp_step.abs x y (by omega) hyl ((y.length : Int) - x.length + p - i) p q1 q2 (atL fw Lw ((y.length : Int) - x.length + p - i - 1)) (atL (-(p : Int)) L ((y.length : Int) - x.length + p - i + 1)) w _ gw gy gx gn gp g8 ga fw Aw cw Lw Ay cy Ax cx m L hll HS.out HR.out HX.out HCX.out HY.out HCY.out HW.out hnw f1 f2 hp (by omega) (by omega) (by omega) HBW.out HQ1.out (Bd_atL HBW.out) HQ2.out (Bd_atL hbl.out)).mono ?_); rintro e w4 ⟨rfl, hs, hr⟩; clear HS HR HQ1 HQ2; have HS := Aside0.mk hs; have HR := Aside0.mk hr; (try clear hs); (try clear hr))))
                all_goals
                  go_wp2_with fail
                  go_roundw
                  case rel => exact ⟨i + 1, by omega, by go_num, HS, ⟨by rw [HSET.out]; have h := HR.out; rwa [show ((y.length : Int) - x.length + p - i + p).toNat = y.length - x.length + 2 * p - i by omega] at h⟩⟩
                  case measure => simp [intOf]; omega
              · obtain rfl : p = i := by omega
                have hlt2 : decide ((y.length : Int) - x.length < (y.length : Int) - x.length + p - p) = false := decide_eq_false (by omega)
                have hll := nxHigh_len x y p fw Lw p
                have hbl := Aside0.mk (nxHigh_bd x y p fw Lw hp HBW.out hxy p (by omega))
                rw [← HM.out] at hll
                have HSET := Aside0.mk (show nx x y p fw Lw = _ from nx.eq_1 x y p fw Lw)
                generalize hL : nxHigh x y p fw Lw p = L at HR hll hbl HSET
                clear hL
                go_upto_region 17 with fail
                have hnz0 : wr.cell? ⟨gn, 0, none⟩ = some (.int .i64 (-p)) := (blk_cell HS.out.2.2.2.2.2.1 0).trans rfl
                have hnz1 : wr.cell? ⟨gn, 1, none⟩ = some (.slice (some ⟨ga, 0, none⟩) m m) := (blk_cell HS.out.2.2.2.2.2.1 1).trans rfl
                have hwz0 : wr.cell? ⟨gw, 0, none⟩ = some (.int .i64 fw) := (blk_cell HS.out.2.2.1 0).trans rfl
                have hwz1 : wr.cell? ⟨gw, 1, none⟩ = some (.slice Aw Lw.length cw) := (blk_cell HS.out.2.2.1 1).trans rfl
                have cz1 : IntKind.i64.wrap ((y.length : Int) - x.length - 1) = (y.length : Int) - x.length - 1 := IntWalk.i64_in _ (by omega)
                have cz2 : IntKind.i64.wrap ((y.length : Int) - x.length + 1) = (y.length : Int) - x.length + 1 := IntWalk.i64_in _ (by omega)
                have n0_ := Aside0.mk (HS.out.below (below_drew (Below.refl _ _)))
                have n1_ := Aside0.mk (RowAt.below (below_drew (Below.refl _ _)) HR.out)
                clear HS HR
                have HS := n0_
                have HR := n1_
                clear n0_ n1_
                go_region_held3 (fun w' => w'.cell? ⟨gn, 0, none⟩ = some (.int .i64 (-p)) ∧ w'.cell? ⟨gn, 1, none⟩ = some (.slice (some ⟨ga, 0, none⟩) m m))
                  (first | go_keep | exact ⟨(blk_cell HS.out.2.2.2.2.2.1 0).trans rfl, (blk_cell HS.out.2.2.2.2.2.1 1).trans rfl⟩)
                  (first
                    | (go_at_call 29; ((with_reducible refine (onp_at.row (-(p : Int)) (some ⟨ga, 0, none⟩) m m L hll ((y.length : Int) - x.length - 1) _ HR.out (by omega) (by omega) (by omega) (by omega) (by omega)).mono ?_); rintro e w1_ ⟨q1, rfl, hq, hb⟩; have n0_ := Aside0.mk (HS.out.below hb); have n1_ := Aside0.mk (RowAt.below hb HR.out); (first | (have n2_ := Aside0.mk (Way.below hb HQ2.out); clear HS HR hb HQ2; have HS := n0_; have HR := n1_; have HQ2 := n2_; clear n0_ n1_ n2_) | (clear HS HR hb; have HS := n0_; have HR := n1_; clear n0_ n1_)); have HQ1 := Aside0.mk hq; clear hq; try clear hnz0 hnz1 hwz0 hwz1))
                    | (go_at_call 29; ((with_reducible refine (onp_at.row (-(p : Int)) (some ⟨ga, 0, none⟩) m m L hll ((y.length : Int) - x.length + 1) _ HR.out (by omega) (by omega) (by omega) (by omega) (by omega)).mono ?_); rintro e w2_ ⟨q2, rfl, hq, hb⟩; have n0_ := Aside0.mk (HS.out.below hb); have n1_ := Aside0.mk (RowAt.below hb HR.out); (first | (have n2_ := Aside0.mk (Way.below hb HQ1.out); clear HS HR hb HQ1; have HS := n0_; have HR := n1_; have HQ1 := n2_; clear n0_ n1_ n2_) | (clear HS HR hb; have HS := n0_; have HR := n1_; clear n0_ n1_)); have HQ2 := Aside0.mk hq; clear hq; try clear hnz0 hnz1 hwz0 hwz1))
                    | (go_at_call 31; ((with_reducible refine (onp_step.abs x y (by omega) hyl ((y.length : Int) - x.length) p q1 q2 (atL (-(p : Int)) L ((y.length : Int) - x.length - 1)) (atL (-(p : Int)) L ((y.length : Int) - x.length + 1)) w _ gw gy gx gn gp g8 ga fw Aw cw Lw Ay cy Ax cx m L hll HS.out HR.out HX.out HCX.out HY.out HCY.out HW.out hnw f1 f2 hp (by omega) (by omega) (by omega) HBW.out HQ1.out (Bd_atL hbl.out) HQ2.out (Bd_atL hbl.out)).mono ?_); rintro e w4 ⟨rfl, hs, hr⟩; clear HS HR HQ1 HQ2; have HS := Aside0.mk hs; have HR := Aside0.mk hr; (try clear hs); (try clear hr))))
                all_goals
                  have hnz0 : w4.cell? ⟨gn, 0, none⟩ = some (.int .i64 (-p)) := (blk_cell HS.out.2.2.2.2.2.1 0).trans rfl
                  have hnz1 : w4.cell? ⟨gn, 1, none⟩ = some (.slice (some ⟨ga, 0, none⟩) m m) := (blk_cell HS.out.2.2.2.2.2.1 1).trans rfl
                  have h8z0 : w4.cell? ⟨g8, 0, none⟩ = some (.int .i64 0) := (blk_cell HS.out.2.2.2.2.2.2.2.1 0).trans rfl
                  have h8z1 : w4.cell? ⟨g8, 1, none⟩ = some (.slice none 0 0) := (blk_cell HS.out.2.2.2.2.2.2.2.1 1).trans rfl
                  have hfz0 := blk_frozen HS.out.2.2.2.2.2.2.2.1 0
                  have hfz1 := blk_frozen HS.out.2.2.2.2.2.2.2.1 1
                  go_wp2_with fail
                  have hK0 := blk_put (cs' := #[.int .i64 (-(p : Int)), .slice none 0 0]) HS.out.2.2.2.2.2.2.2.1 0 (.int .i64 (-(p : Int))) rfl
                  have hK := blk_put (cs' := #[.int .i64 (-(p : Int)), .slice (some ⟨ga, 0, none⟩) m m]) hK0 1 (.slice (some ⟨ga, 0, none⟩) m m) rfl
                  have hR4 := HR.out
                  rw [show ((y.length : Int) - x.length + p).toNat = y.length - x.length + p by omega, ← HSET.out] at hR4
                  refine ⟨rfl, _, results_single rfl (.cell g8 46 _ (0, 0) _ rfl hK Try.underlying46 rfl (by kernel_rfl) .nil), ga, ?_, RowAt.far (RowAt.far hR4 HS.out.2.2.2.2.2.2.2.1 (by decide) (by decide) _ _) hK0 (by decide) (by decide) _ _, below_set (below_set HS.out.1 HS.out.2.2.2.2.2.2.2.2) HS.out.2.2.2.2.2.2.2.2⟩
                  rw [nx_len, ← HM.out]

/-! ### of onp, by hand: Se -/
/-- The front ahead of the cost p. -/
def pr (x y : List Int) : Nat → Int × List Rch
  | 0 => (0, [])
  | q + 1 => (-(q : Int), nx x y q (pr x y q).1 (pr x y q).2)
theorem pr_first (x y : List Int) (p : Nat) (hp : p ≤ 1000001) : -1000000000 ≤ (pr x y p).1 ∧ (pr x y p).1 ≤ 0 := by
  cases p with
  | zero => exact ⟨show (-1000000000 : Int) ≤ 0 by decide, show (0 : Int) ≤ 0 by decide⟩
  | succ q => exact ⟨by show -1000000000 ≤ -(q : Int); omega, by show -(q : Int) ≤ 0; omega⟩
theorem pr_bd (x y : List Int) (hxy : x.length ≤ y.length) : ∀ p, p ≤ x.length + 1 → ∀ r, r ∈ (pr x y p).2 → Bd x y r
  | 0, _ => fun r hr => by cases hr
  | q + 1, hq => nx_bd x y q _ _ (by omega) (pr_bd x y hxy q (by omega)) hxy
theorem pr_len (x y : List Int) (hyl : y.length ≤ 1000000) (p : Nat) (hp : p ≤ 1000001) : (pr x y p).2.length ≤ 1000000000 := by
  cases p with
  | zero => simp [pr]
  | succ q => rw [pr, nx_len]; omega
def onp_search.l0 : Nat → List Int → List Int → Nat → Int → Option (Nat × List (Int × Int × Int) × Int)
  | 0, _, _, _, _ => none
  | k + 1, x, y, p, st => if p ≤ x.length then (if (atL (-(p : Int)) (pr x y (p + 1)).2 ((y.length : Int) - x.length)).1 = y.length then some (p, (atL (-(p : Int)) (pr x y (p + 1)).2 ((y.length : Int) - x.length)).2, wrap64 (st + (pr x y (p + 1)).2.length)) else onp_search.l0 k x y (p + 1) (wrap64 (st + (pr x y (p + 1)).2.length))) else none
def onp_search.f (k : Nat) (x y : List Int) : Option (Nat × List (Int × Int × Int) × Int) := onp_search.l0 k x y 0 0
theorem onp_search.mono_l : ∀ k x y p st, LeO (onp_search.l0 k x y p st) (onp_search.l0 (k + 1) x y p st)
  | 0, _, _, _, _ => fun r h => by simp [onp_search.l0] at h
  | k + 1, x, y, p, st => by
    have ih := onp_search.mono_l k
    unfold onp_search.l0
    exact LeO.ite (LeO.ite (LeO.refl _) (ih _ _ _ _)) (LeO.refl _)
theorem onp_search.mono : ∀ a0 a1 k, LeO (onp_search.f k a0 a1) (onp_search.f (k + 1) a0 a1) := fun _ _ _ => onp_search.mono_l _ _ _ _ _
set_option maxHeartbeats 8000000 in
set_option maxRecDepth 100000 in
theorem onp_search.calls (K : Nat) (x y : List Int) (Ax : Option Addr) (cx : Nat) (Ay : Option Addr) (cy : Nat) (pp : Nat) (rl : List (Int × Int × Int)) (so : Int) (w : World) (hx : Kd.C (Kd.int .i64) w Ax x.length x) (hcx : x.length ≤ cx) (hy : Kd.C (Kd.int .i64) w Ay y.length y) (hcy : y.length ≤ cy)
    (hxy : x.length ≤ y.length) (hyl : y.length ≤ 1000000) (h : onp_search.f K x y = some (pp, rl, so)) :
    Calls Try.prog 23 #[.slice Ax x.length cx, .slice Ay y.length cy] w fun e w' => ∃ q, e = .returned (.tuple #[.int .i64 pp, .pointer q, .int .i64 so]) ∧ Way w' q rl ∧ Below w.heap.size w w' := by
  have HX := Aside0.mk hx
  have HY := Aside0.mk hy
  have HCX := Aside0.mk hcx
  have HCY := Aside0.mk hcy
  have HA := Aside0.mk (show onp_search.l0 K x y 0 0 = some (pp, rl, so) from h)
  have HB := Aside0.mk (below_alloc (Below.refl w.heap.size w) (.cells #[.int .i64 0, .slice none 0 0] 46))
  have BK := Aside0.mk (blk_new w (.cells #[.int .i64 0, .slice none 0 0] 46))
  have HG := Aside0.mk (Nat.le_refl w.heap.size)
  have hu46 := Try.underlying46
  have hu49 := Try.underlying49
  clear hx hy hcx hcy h
  go_enter Try.func23, Try.ntmps23
  go_wp2_with fail
  generalize w.alloc (.cells #[.int .i64 0, .slice none 0 0] 46) = wx at HB BK ⊢
  generalize hg : w.heap.size = g8 at BK ⊢
  have HG := Aside0.mk (show w.heap.size ≤ g8 by omega)
  clear hg
  go_loopg [4, 6] K (fun kq v4 v6 w' => ∃ (p : Nat) (st : Int) (Aw : Option Addr) (cw : Nat), v4 = .int .i64 p ∧ v6 = .int .i64 st ∧ Aside0 (onp_search.l0 kq x y p st = some (pp, rl, so)) ∧ Aside0 (kq ≤ K) ∧ Aside0 (Below w.heap.size w w') ∧ Aside0 (w'.heap[g8]? = some (.cells #[.int .i64 (pr x y p).1, .slice Aw (pr x y p).2.length cw] 46 (0, 0))) ∧ Aside0 (RowAt w' Aw (pr x y p).2))
  case atStart => exact ⟨0, 0, none, 0, rfl, rfl, HA, ⟨Nat.le_refl _⟩, HB, BK, ⟨.inl rfl⟩⟩
  case round =>
    clear HA HB BK
    obtain ⟨p, st, Aw, cw, rfl, rfl, HA, HK, HB, BK, HR⟩ := hrel
    cases gk with
    | zero => exact absurd HA.out (by simp [onp_search.l0])
    | succ k1 =>
      have h := HA.out
      clear HA
      unfold onp_search.l0 at h
      by_cases hp : p ≤ x.length
      · rw [if_pos hp] at h
        have HPF := Aside0.mk (pr_first x y p (by omega))
        have HPB := Aside0.mk (pr_bd x y hxy p (by omega))
        have HPL := Aside0.mk (pr_len x y hyl p (by omega))
        have HB2 := Aside0.mk (show ∀ r, r ∈ nx x y p (pr x y p).1 (pr x y p).2 → Bd x y r from pr_bd x y hxy (p + 1) (by omega))
        have HL2 := Aside0.mk (show (nx x y p (pr x y p).1 (pr x y p).2).length ≤ 1000000000 from pr_len x y hyl (p + 1) (by omega))
        have HEQ := Aside0.mk (show nx x y p (pr x y p).1 (pr x y p).2 = (pr x y (p + 1)).2 from rfl)
        rw [show (pr x y (p + 1)).2 = nx x y p (pr x y p).1 (pr x y p).2 from rfl] at h
        have HH := Aside0.mk h
        clear h
        have hz0 : wr.cell? ⟨g8, 0, none⟩ = some (.int .i64 (pr x y p).1) := (blk_cell BK.out 0).trans rfl
        have hz1 : wr.cell? ⟨g8, 1, none⟩ = some (.slice Aw (pr x y p).2.length cw) := (blk_cell BK.out 1).trans rfl
        go_upto_region 4 with (first
          | (go_at_call 24; ((with_reducible refine (onp_next.calls x y p (pr x y p).1 Aw cw (pr x y p).2 Ax cx Ay cy _ (Kd.C_below HX.out HB.out) HCX.out (Kd.C_below HY.out HB.out) HCY.out HR.out hxy hyl hp HPL.out HPF.out.1 (Int.le_trans HPF.out.2 (by decide)) HPB.out).mono ?_); rintro e w2 ⟨ga, rfl, hr, hb⟩; have n0_ := Aside0.mk (below_step HB.out hb); have n1_ := Aside0.mk (blk_below BK.out hb); clear HB BK hz0 hz1 HR; have HB := n0_; have BK := n1_; clear n0_ n1_ hb; have HR := Aside0.mk hr; clear hr; have hz0 := (blk_cell BK.out 0).trans rfl; have hz1 := (blk_cell BK.out 1).trans rfl; have hfz0 := blk_frozen BK.out 0; have hfz1 := blk_frozen BK.out 1)))
        generalize nx x y p (pr x y p).1 (pr x y p).2 = Ln at HR HB2 HL2 HH HEQ ⊢
        have n0_ := Aside0.mk (blk_put (cs' := #[.int .i64 (-(p : Int)), .slice Aw (pr x y p).2.length cw]) BK.out 0 (.int .i64 (-(p : Int))) rfl)
        have n1_ := Aside0.mk (blk_put (cs' := #[.int .i64 (-(p : Int)), .slice (some ⟨ga, 0, none⟩) Ln.length Ln.length]) n0_.out 1 (.slice (some ⟨ga, 0, none⟩) Ln.length Ln.length) rfl)
        have n2_ := Aside0.mk (RowAt.far (RowAt.far HR.out BK.out (by decide) (by decide) 0 (.int .i64 (-(p : Int)))) n0_.out (by decide) (by decide) 1 (.slice (some ⟨ga, 0, none⟩) Ln.length Ln.length))
        have n3_ := Aside0.mk (below_set (j := 1) (v := .slice (some ⟨ga, 0, none⟩) Ln.length Ln.length) (below_set (j := 0) (v := .int .i64 (-(p : Int))) HB.out HG.out) HG.out)
        clear HB BK hz0 hz1 hfz0 hfz1 HR n0_
        have HB := n3_
        have BK := n1_
        have HR := n2_
        clear n3_ n1_ n2_
        generalize (w2.setCell ⟨g8, 0, none⟩ (.int .i64 (-(p : Int)))).setCell ⟨g8, 1, none⟩ (.slice (some ⟨ga, 0, none⟩) Ln.length Ln.length) = w3 at HB BK HR ⊢
        have hz0 : w3.cell? ⟨g8, 0, none⟩ = some (.int .i64 (-(p : Int))) := (blk_cell BK.out 0).trans rfl
        have hz1 : w3.cell? ⟨g8, 1, none⟩ = some (.slice (some ⟨ga, 0, none⟩) Ln.length Ln.length) := (blk_cell BK.out 1).trans rfl
        go_upto_region 6 with (first
          | (go_at_call 29; ((with_reducible refine (onp_at.row (-(p : Int)) (some ⟨ga, 0, none⟩) Ln.length Ln.length Ln rfl ((y.length : Int) - x.length) _ HR.out HL2.out (by omega) (by omega) (by omega) (by omega)).mono ?_); rintro e w4 ⟨q, rfl, hq, hb⟩; have n0_ := Aside0.mk (below_step HB.out hb); have n1_ := Aside0.mk (blk_below BK.out hb); have n2_ := Aside0.mk (RowAt.below hb HR.out); have HQ := Aside0.mk hq; clear HB BK HR hz0 hz1 hb hq; have HB := n0_; have BK := n1_; have HR := n2_; clear n0_ n1_ n2_))
          | ((with_reducible refine gate_dst (N := 9) rfl ?_); refine box_event ?hg (N := 9) ?hd (cs := #[.int .i64 0, .pointer none]) (t := 49) ?hr ?_; (case hd => rfl); (case hg => rfl); (case hr => first | (go_simp; done) | (go_simp; rfl)); intro gb hg w8 hbox hb; have HB8 := Aside0.mk hb; have BB := Aside0.mk hbox; have HBG := Aside0.mk (show w4.heap.size ≤ gb by rw [hg]; exact Nat.le_refl _); (try clear hb); (try clear hbox); (try clear hg); have hbz0 := (blk_cell BB.out 0).trans rfl; have hbz1 := (blk_cell BB.out 1).trans rfl; have hbf0 := blk_frozen BB.out 0; have hbf1 := blk_frozen BB.out 1))
        generalize atL (-(p : Int)) Ln ((y.length : Int) - x.length) = r at HQ HH ⊢
        obtain ⟨rj, rr⟩ := r
        have hh := HH.out
        simp only at hh
        clear HH
        have HH := Aside0.mk hh
        clear hh
        have n5_ := blk_put (cs' := #[.int .i64 rj, .pointer none]) BB.out 0 (.int .i64 rj) rfl
        have n6_ := blk_put (cs' := #[.int .i64 rj, .pointer q]) n5_ 1 (.pointer q) rfl
        have n4_ := below_set (j := 1) (v := .pointer q) (below_set (j := 0) (v := .int .i64 rj) HB8.out HBG.out) HBG.out
        have n0_ := Aside0.mk (below_step HB.out n4_)
        have n1_ := Aside0.mk (blk_below BK.out n4_)
        have n2_ := Aside0.mk (RowAt.below n4_ HR.out)
        have n3_ := Aside0.mk (Way.below n4_ HQ.out)
        clear HB BK HR HQ hbz0 hbz1 hbf0 hbf1 BB HB8 n5_ n4_
        have HB := n0_
        have BK := n1_
        have HR := n2_
        have HQ := n3_
        have BB := Aside0.mk n6_
        clear n0_ n1_ n2_ n3_ n6_
        generalize (w8.setCell ⟨gb, 0, none⟩ (.int .i64 rj)).setCell ⟨gb, 1, none⟩ (.pointer q) = w5 at HB BK HR HQ BB ⊢
        have hbz0 : w5.cell? ⟨gb, 0, none⟩ = some (.int .i64 rj) := (blk_cell BB.out 0).trans rfl
        have hbz1 : w5.cell? ⟨gb, 1, none⟩ = some (.pointer q) := (blk_cell BB.out 1).trans rfl
        by_cases hc : rj = (y.length : Int)
        · have h := HH.out
          rw [if_pos hc] at h
          simp only [Option.some.injEq, Prod.mk.injEq] at h
          obtain ⟨h1, h2, h3⟩ := h
          have HC := Aside0.mk hc
          have hb1 : (rj == (y.length : Int)) = true := by rw [hc]; exact beq_self_eq_true _
          have E1 := Aside0.mk h1
          have E2 := Aside0.mk h2
          have E3 := Aside0.mk h3
          clear h1 h2 h3 hc
          go_wp2
          go_quiet (fail)
          go_wp2
          go_ret3
          exact ⟨q, by rw [← E1.out, ← E3.out]; rfl, by rw [← E2.out]; exact Way.below (pw_below_drewN (Below.refl _ _) _) HQ.out, pw_below_drewN HB.out _⟩
        · have h := HH.out
          rw [if_neg hc] at h
          have HA := Aside0.mk h
          have hb1 : (rj == (y.length : Int)) = false := by simpa using hc
          clear h hc
          go_wp2
          go_roundg k1
          case measure => have := HK.out; omega
          case rel => exact ⟨p + 1, _, some ⟨ga, 0, none⟩, Ln.length, by go_num, rfl, HA, ⟨by have := HK.out; omega⟩, HB, ⟨by rw [← HEQ.out]; exact BK.out⟩, ⟨by rw [← HEQ.out]; exact HR.out⟩⟩
      · rw [if_neg hp] at h
        cases h

/-! ### onp_Dist: function 9, by hand -/
theorem onp_ord.gt (A0 A1 : Option Addr) (n0 c0 n1 c1 : Nat) (w : World) (h : n1 < n0) : Calls Try.prog 22 #[.slice A0 n0 c0, .slice A1 n1 c1] w fun e w' => e = .returned (.tuple #[.slice A1 n1 c1, .slice A0 n0 c0, .bool true]) ∧ Drawn0 w w' := by
  have hd : decide ((n0 : Int) > (n1 : Int)) = true := decide_eq_true (by omega)
  go_enter Try.func22, Try.ntmps22
  go_wp2
  first | go_quiet (fail) | skip
  go_wp2
  go_ret3
  exact ⟨rfl, by repeat (first | exact Drawn0.refl _ | apply Drawn0.step)⟩
theorem onp_ord.le (A0 A1 : Option Addr) (n0 c0 n1 c1 : Nat) (w : World) (h : ¬ n1 < n0) : Calls Try.prog 22 #[.slice A0 n0 c0, .slice A1 n1 c1] w fun e w' => e = .returned (.tuple #[.slice A0 n0 c0, .slice A1 n1 c1, .bool false]) ∧ Drawn0 w w' := by
  have hd : decide ((n0 : Int) > (n1 : Int)) = false := decide_eq_false (by omega)
  have h' : n0 ≤ n1 := Nat.not_lt.mp h
  go_enter Try.func22, Try.ntmps22
  go_wp2
  first | go_quiet (fail) | skip
  go_wp2
  go_ret3
  exact ⟨rfl, by repeat (first | exact Drawn0.refl _ | apply Drawn0.step)⟩
def onp_Dist.g (k : Nat) (x y : List Int) : Option (Int × Int) := (onp_search.f k x y).bind fun r => some (wrap64 ((y.length : Int) - x.length + wrap64 (2 * r.1)), r.2.2)
def onp_Dist.f (k : Nat) (l0 l1 : List Int) : Option (Int × Int) := if l0.length ≤ 1000000 ∧ l1.length ≤ 1000000 then (if l1.length < l0.length then onp_Dist.g k l1 l0 else onp_Dist.g k l0 l1) else none
theorem onp_Dist.mono_g (x y : List Int) (k : Nat) : LeO (onp_Dist.g k x y) (onp_Dist.g (k + 1) x y) := LeO.bind (onp_search.mono _ _ _) fun _ => LeO.refl _
theorem onp_Dist.mono : ∀ a0 a1 k, LeO (onp_Dist.f k a0 a1) (onp_Dist.f (k + 1) a0 a1) := fun a0 a1 k => LeO.ite (LeO.ite (onp_Dist.mono_g _ _ _) (onp_Dist.mono_g _ _ _)) (LeO.refl _)
set_option maxHeartbeats 8000000 in
set_option maxRecDepth 100000 in
theorem onp_Dist.calls (k : Nat) (A0 : Option Addr) (c0 : Nat) (l0 : List Int) (A1 : Option Addr) (c1 : Nat) (l1 : List Int) (r1 r2 : Int) (w : World) (hr0 : Kd.C (Kd.int .i64) w A0 l0.length l0) (hc0 : l0.length ≤ c0) (hr1 : Kd.C (Kd.int .i64) w A1 l1.length l1) (hc1 : l1.length ≤ c1) (h : onp_Dist.f k l0 l1 = some (r1, r2)) :
    Calls Try.prog 9 #[.slice A0 l0.length c0, .slice A1 l1.length c1] w fun e w' => e = .returned (.tuple #[.int .i64 r1, .int .i64 r2]) ∧ Below w.heap.size w w' := by
  unfold onp_Dist.f at h
  by_cases hl : l0.length ≤ 1000000 ∧ l1.length ≤ 1000000
  · rw [if_pos hl] at h
    obtain ⟨hl0, hl1⟩ := hl
    have HR0 := Aside0.mk hr0
    have HR1 := Aside0.mk hr1
    have HC0 := Aside0.mk hc0
    have HC1 := Aside0.mk hc1
    have HB := Aside0.mk (Below.refl w.heap.size w)
    clear hr0 hr1 hc0 hc1
    by_cases hlt : l1.length < l0.length
    all_goals
      first | rw [if_pos hlt] at h | rw [if_neg hlt] at h
      unfold onp_Dist.g at h
      rw [Option.bind_eq_some_iff] at h
      obtain ⟨⟨p, rl, so⟩, hs, h⟩ := h
      simp only [Option.some.injEq, Prod.mk.injEq] at h
      obtain ⟨h1, rfl⟩ := h
      have E1 := Aside0.mk h1
      have HS := Aside0.mk hs
      clear h1 hs
      go_enter Try.func9, Try.ntmps9
      go_wp2_with (first
        | (go_at_call 22; ((with_reducible refine (onp_ord.gt _ _ _ _ _ _ _ hlt).mono ?_); rintro e w2 ⟨rfl, hb⟩; have n0_ := Aside0.mk (below_step HB.out hb.below); clear HB hb; have HB := n0_; clear n0_))
        | (go_at_call 22; ((with_reducible refine (onp_ord.le _ _ _ _ _ _ _ hlt).mono ?_); rintro e w2 ⟨rfl, hb⟩; have n0_ := Aside0.mk (below_step HB.out hb.below); clear HB hb; have HB := n0_; clear n0_))
        | (go_at_call 23; ((with_reducible refine (onp_search.calls k l1 l0 A1 c1 A0 c0 p rl so _ (Kd.C_below HR1.out HB.out) HC1.out (Kd.C_below HR0.out HB.out) HC0.out (by omega) hl0 HS.out).mono ?_); rintro e w3 ⟨q, rfl, hq, hb⟩; have n0_ := Aside0.mk (below_step HB.out hb); clear HB hb hq; have HB := n0_; clear n0_))
        | (go_at_call 23; ((with_reducible refine (onp_search.calls k l0 l1 A0 c0 A1 c1 p rl so _ (Kd.C_below HR0.out HB.out) HC0.out (Kd.C_below HR1.out HB.out) HC1.out (by omega) hl1 HS.out).mono ?_); rintro e w3 ⟨q, rfl, hq, hb⟩; have n0_ := Aside0.mk (below_step HB.out hb); clear HB hb hq; have HB := n0_; clear n0_)))
      go_ret2
      exact ⟨by rw [← E1.out]; rfl, HB.out⟩
  · rw [if_neg hl] at h
    cases h

end Go.Proofs.Yteijoilcffhomaa.POnpFar
