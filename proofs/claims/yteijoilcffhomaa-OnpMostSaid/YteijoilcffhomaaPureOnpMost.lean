/- Of every three numbers how many steps there are. -/
import Derived.Test.YteijoilcffhomaaPOnpMostx4
import Derived.Test.YteijoilcffhomaaWSized
namespace Go.Proofs.Yteijoilcffhomaa.Pure
open Go.RowKit Go.Proofs.Yteijoilcffhomaa.POnpMost Go.Proofs.YteijoilcffhomaaW.PrintWords Go.Proofs.YteijoilcffhomaaW.PrintLast Go.Proofs.YteijoilcffhomaaW.PrintMore
set_option linter.unusedVariables false
set_option linter.unusedSimpArgs false

/-! Words for the pure side: whole numbers that do not wrap, reads of lists. -/
theorem wr {x : Int} (h : -9223372036854775808 ≤ x) (h' : x < 9223372036854775808) : wrap64 x = x := by unfold wrap64; omega
theorem rd_nat (xs : List Int) (n : Nat) : rd xs (n : Int) = xs.getD n 0 := rfl
theorem rd_at {xs : List Int} {i : Int} {n : Nat} (h : i = (n : Int)) : rd xs i = xs.getD n 0 := by subst h; rfl
theorem drop_getD {xs : List Int} {i : Nat} (h : i < xs.length) : xs.drop i = xs.getD i 0 :: xs.drop (i + 1) := by
  rw [List.drop_eq_getElem_cons h]; simp [List.getD_eq_getElem?_getD, h]
theorem take_getD {xs : List Int} {i : Nat} (h : i < xs.length) : xs.take (i + 1) = xs.take i ++ [xs.getD i 0] := by
  rw [List.take_succ_eq_append_getElem h]; simp [List.getD_eq_getElem?_getD, h]

theorem lz_bind {α β : Type} {a a' : Option α} {f : α → Option β} (h : a = a') : a.bind f = a'.bind f := by rw [h]
theorem lz_ite {α : Type} {c c' : Prop} [s : Decidable c] [s' : Decidable c'] {t e : α} (h : c = c') : ite c t e = ite c' t e := by
  subst h; rw [Subsingleton.elim s s']
attribute [local congr] lz_bind lz_ite
theorem bs {α β : Type} (a : α) (f : α → Option β) : (some a).bind f = f a := by simp
theorem itt {α : Type} (t e : α) : (if (true = true) then t else e) = t := by simp
theorem ift {α : Type} (t e : α) : (if (false = true) then t else e) = e := by simp
theorem ifT {α : Type} (t e : α) : (if True then t else e) = t := by simp
theorem ifF {α : Type} (t e : α) : (if False then t else e) = e := by simp

theorem u8_wf {x : Int} (h : (Lit.int .u8 x).wf = true) : 0 ≤ x ∧ x < 256 := by
  have h' := h
  simp only [Lit.wf, Bool.and_eq_true, decide_eq_true_eq] at h'
  have e1 : IntKind.u8.min = 0 := by rfl
  have e2 : IntKind.u8.max = 255 := by rfl
  rw [e1, e2] at h'
  omega
theorem i64_wf {x : Int} (h : (Lit.int .i64 x).wf = true) : -9223372036854775808 ≤ x ∧ x < 9223372036854775808 := by
  have h' := h
  simp only [Lit.wf, Bool.and_eq_true, decide_eq_true_eq] at h'
  have e1 : IntKind.i64.min = -9223372036854775808 := by decide
  have e2 : IntKind.i64.max = 9223372036854775807 := by decide
  rw [e1, e2] at h'
  omega
theorem tmod_nat (x n : Nat) : Int.tmod (x : Int) (n : Int) = ((x % n : Nat) : Int) := by
  rw [Int.tmod_eq_emod_of_nonneg (by omega)]; exact (Int.natCast_emod _ _).symm
/-- A number within a list's places and its end. -/
theorem place (x : Int) (n : Nat) (h : 0 ≤ x ∧ x < 256) (hn : n ≤ 1000000) : ∃ p : Nat, p ≤ n ∧ Int.tmod (wrap64 x) (wrap64 ((n : Int) + 1)) = p := by
  obtain ⟨y, rfl⟩ := Int.eq_ofNat_of_zero_le h.1
  rw [wr (by omega) (by omega), wr (by omega) (by omega)]
  refine ⟨y % (n + 1), by have := Nat.mod_lt y (show 0 < n + 1 by omega); omega, ?_⟩
  have := tmod_nat y (n + 1)
  simpa using this

/-- How many furthest points there are at most. -/
def mostOf (w d : Int) : Int := ((d - w) / 2 + 1) * (w + (d - w) / 2 + 1)
theorem tmod_two {x : Int} (h : 0 ≤ x) : Int.tmod x 2 = x % 2 := Int.tmod_eq_emod_of_nonneg h
theorem tdiv_two {x : Int} (h : 0 ≤ x) : Int.tdiv x 2 = x / 2 := Int.tdiv_eq_ediv_of_nonneg h
theorem most_small {w d : Int} (hw : 0 ≤ w) (hw' : w ≤ 1048576) (h1 : w ≤ d) (h2 : d ≤ 2097152) : 0 ≤ mostOf w d ∧ mostOf w d ≤ 9000000000000 := by
  unfold mostOf
  have a1 : 0 ≤ (d - w) / 2 := by omega
  have a2 : (d - w) / 2 ≤ 1048576 := by omega
  generalize (d - w) / 2 = q at a1 a2
  constructor
  · exact Int.mul_nonneg (by omega) (by omega)
  · have : (q + 1) * (w + q + 1) ≤ 2000000 * 4000000 := Int.mul_le_mul (by omega) (by omega) (by omega) (by omega)
    omega
def onpMost (n m d : Int) : Int := if n < 0 ∨ 1048576 < n ∨ m < 0 ∨ 1048576 < m then 0 else if d < mx (n - m) (m - n) then 0 else if n + m < d then 0 else if (d - mx (n - m) (m - n)) % 2 = 0 then mostOf (mx (n - m) (m - n)) d else 0
theorem mx_eq (n m : Int) (hn : 0 ≤ n) (hn' : n ≤ 1048576) (hm : 0 ≤ m) (hm' : m ≤ 1048576) : mx (wrap64 (n - m)) (wrap64 (m - n)) = mx (n - m) (m - n) ∧ 0 ≤ mx (n - m) (m - n) ∧ mx (n - m) (m - n) ≤ 1048576 := by
  rw [wr (by omega) (by omega), wr (by omega) (by omega)]
  unfold mx
  split <;> omega
theorem Apart_eq (n m : Int) (hn : 0 ≤ n) (hn' : n ≤ 1048576) (hm : 0 ≤ m) (hm' : m ≤ 1048576) : tattingref15_Apart.f n m = some (mx (n - m) (m - n)) := by
  unfold tattingref15_Apart.f mx
  rw [wr (by omega) (by omega), wr (by omega) (by omega)]
  split <;> split <;> first | rfl | (congr 1; omega)
theorem onp_Most_eq (n m d : Int) (hd : -9223372036854775808 ≤ d ∧ d < 9223372036854775808) (k : Nat) : onp_Most.f (k + 1) n m d = some (onpMost n m d) := by
  have hj : ∀ b, onp_Most.j0 (k + 1) n m d b = if b = true then some 0 else (if d < (mx (wrap64 (n - m)) (wrap64 (m - n))) then (some 0) else (if d > (wrap64 (n + m)) then (some 0) else (if (Int.tmod (wrap64 (d - (mx (wrap64 (n - m)) (wrap64 (m - n))))) 2) = 0 then (some (wrap64 ((wrap64 ((wrap64 (Int.tdiv (wrap64 (d - (mx (wrap64 (n - m)) (wrap64 (m - n))))) 2)) + 1)) * (wrap64 ((wrap64 ((mx (wrap64 (n - m)) (wrap64 (m - n))) + (wrap64 (Int.tdiv (wrap64 (d - (mx (wrap64 (n - m)) (wrap64 (m - n))))) 2)))) + 1))))) else (some 0)))) := fun b => by rw [onp_Most.j0]
  unfold onp_Most.f onpMost
  by_cases h1 : n < 0
  · rw [if_pos h1, hj, if_pos rfl, if_pos (.inl h1)]
  rw [if_neg h1]
  by_cases h2 : n > 1048576
  · rw [if_pos h2, hj, if_pos rfl, if_pos (.inr (.inl h2))]
  rw [if_neg h2]
  by_cases h3 : m < 0
  · rw [if_pos h3, hj, if_pos rfl, if_pos (.inr (.inr (.inl h3)))]
  rw [if_neg h3]
  by_cases h4 : m > 1048576
  · rw [decide_eq_true h4, hj, if_pos rfl, if_pos (.inr (.inr (.inr h4)))]
  rw [decide_eq_false h4, hj, if_neg (by simp), if_neg (show ¬ (n < 0 ∨ 1048576 < n ∨ m < 0 ∨ 1048576 < m) by omega)]
  obtain ⟨e1, e2, e3⟩ := mx_eq n m (by omega) (by omega) (by omega) (by omega)
  rw [e1]
  generalize mx (n - m) (m - n) = w at e2 e3
  by_cases h5 : d < w
  · rw [if_pos h5, if_pos h5]
  rw [if_neg h5, if_neg h5, wr (x := n + m) (by omega) (by omega)]
  by_cases h6 : n + m < d
  · rw [if_pos (by omega), if_pos h6]
  rw [if_neg (by omega), if_neg h6, wr (x := d - w) (by omega) (by omega), tmod_two (by omega)]
  by_cases h7 : (d - w) % 2 = 0
  · rw [if_pos h7, if_pos h7, tdiv_two (by omega)]
    have b1 : 0 ≤ (d - w) / 2 := by omega
    have b2 : (d - w) / 2 ≤ 1048576 := by omega
    rw [wr (x := (d - w) / 2) (by omega) (by omega), wr (x := (d - w) / 2 + 1) (by omega) (by omega), wr (x := w + (d - w) / 2) (by omega) (by omega), wr (x := w + (d - w) / 2 + 1) (by omega) (by omega)]
    have := most_small e2 e3 (by omega : w ≤ d) (by omega)
    unfold mostOf at this ⊢
    rw [wr (by omega) (by omega)]
  · rw [if_neg h7, if_neg h7]
theorem MostPoints_eq (n m d : Int) (hd : -9223372036854775808 ≤ d ∧ d < 9223372036854775808) (k : Nat) : tattingref15_MostPoints.f (k + 1) n m d = some (onpMost n m d) := by
  have hj : ∀ b, tattingref15_MostPoints.j0 (k + 1) n m d b = if b = true then (some 0) else ((tattingref15_Apart.f n m).bind fun t154 => (if d < t154 then (some 0) else (if d > (wrap64 (n + m)) then (some 0) else (if (Int.tmod (wrap64 (d - t154)) 2) = 0 then (some (wrap64 ((wrap64 ((wrap64 (Int.tdiv (wrap64 (d - t154)) 2)) + 1)) * (wrap64 ((wrap64 (t154 + (wrap64 (Int.tdiv (wrap64 (d - t154)) 2)))) + 1))))) else (some 0))))) := fun b => by rw [tattingref15_MostPoints.j0]
  unfold tattingref15_MostPoints.f onpMost
  by_cases h1 : n < 0
  · rw [if_pos h1, hj, if_pos rfl, if_pos (.inl h1)]
  rw [if_neg h1]
  by_cases h3 : m < 0
  · rw [if_pos h3, hj, if_pos rfl, if_pos (.inr (.inr (.inl h3)))]
  rw [if_neg h3]
  by_cases h2 : n > 1048576
  · rw [if_pos h2, hj, if_pos rfl, if_pos (.inr (.inl h2))]
  rw [if_neg h2]
  by_cases h4 : m > 1048576
  · rw [decide_eq_true h4, hj, if_pos rfl, if_pos (.inr (.inr (.inr h4)))]
  rw [decide_eq_false h4, hj, if_neg (by simp), if_neg (show ¬ (n < 0 ∨ 1048576 < n ∨ m < 0 ∨ 1048576 < m) by omega)]
  obtain ⟨_, e2, e3⟩ := mx_eq n m (by omega) (by omega) (by omega) (by omega)
  rw [Apart_eq n m (by omega) (by omega) (by omega) (by omega), bs]
  generalize mx (n - m) (m - n) = w at e2 e3
  by_cases h5 : d < w
  · rw [if_pos h5, if_pos h5]
  rw [if_neg h5, if_neg h5, wr (x := n + m) (by omega) (by omega)]
  by_cases h6 : n + m < d
  · rw [if_pos (by omega), if_pos h6]
  rw [if_neg (by omega), if_neg h6, wr (x := d - w) (by omega) (by omega), tmod_two (by omega)]
  by_cases h7 : (d - w) % 2 = 0
  · rw [if_pos h7, if_pos h7, tdiv_two (by omega)]
    have b1 : 0 ≤ (d - w) / 2 := by omega
    have b2 : (d - w) / 2 ≤ 1048576 := by omega
    rw [wr (x := (d - w) / 2) (by omega) (by omega), wr (x := (d - w) / 2 + 1) (by omega) (by omega), wr (x := w + (d - w) / 2) (by omega) (by omega), wr (x := w + (d - w) / 2 + 1) (by omega) (by omega)]
    have := most_small e2 e3 (by omega : w ≤ d) (by omega)
    unfold mostOf at this ⊢
    rw [wr (by omega) (by omega)]
  · rw [if_neg h7, if_neg h7]

theorem awake_ev : ∃ K, tattinglaw18_awake.f K = some true := ⟨40, by decide +kernel⟩
theorem law_OnpMost : tattinglaw18_OnpMost.Pure := by
  intro n m d _ _ wd
  have hd := i64_wf wd
  obtain ⟨K, h⟩ := awake_ev
  refine ⟨K + 1, ?_⟩
  unfold tattinglaw18_OnpMost.f
  rw [tattinglaw18_awake.mono _ _ h, bs, itt, onp_Most_eq n m d hd, bs, MostPoints_eq n m d hd, bs, beq_self_eq_true]

theorem OnpMost : tattinglaw18_OnpMost.Pure := law_OnpMost

end Go.Proofs.Yteijoilcffhomaa.Pure
namespace Go.Proofs.Yteijoilcffhomaa.PrintWords
/-- The row's word under the name by which the row calls it. -/
abbrev sized_ints := @Go.Proofs.YteijoilcffhomaaW.PrintWords.sized_ints
end Go.Proofs.Yteijoilcffhomaa.PrintWords
