/- Every hunks, turned round; twice turned round they are as they were. Over lists alone. -/
import Derived.Test.YtlodaoijokfblaaPPatchInvertsx6
namespace Go.Proofs.Ytlodaoijokfblaa.Pure
open Go.RowKit Go.Proofs.YtlodaoijokfblaaW.PrintWords Go.Proofs.YtlodaoijokfblaaW.PrintLast Go.Proofs.YtlodaoijokfblaaW.PrintMore Go.Proofs.Ytlodaoijokfblaa.PPatchInverts
set_option linter.unusedVariables false
set_option linter.unusedSimpArgs false

/-! Words for the pure side: whole numbers that do not wrap, reads of lists. -/
theorem wr {x : Int} (h : -9223372036854775808 ≤ x) (h' : x < 9223372036854775808) : wrap64 x = x := by unfold wrap64; omega
theorem rd_nat (xs : List Int) (n : Nat) : rd xs (n : Int) = xs.getD n 0 := rfl
theorem rd_at {xs : List Int} {i : Int} {n : Nat} (h : i = (n : Int)) : rd xs i = xs.getD n 0 := by subst h; rfl
theorem drop_getD {xs : List Int} {i : Nat} (h : i < xs.length) : xs.drop i = xs.getD i 0 :: xs.drop (i + 1) := by
  rw [List.drop_eq_getElem_cons h]; simp [List.getD_eq_getElem?_getD, h]
theorem take_getD {xs : List Int} {i : Nat} (h : i < xs.length) : xs.take (i + 1) = xs.take i ++ [xs.getD i 0] := by
  rw [List.take_succ_eq_append_getElem h]; simp [List.getD_eq_getElem?_getD, h]

theorem lz_bind {α β : Type} {a a' : Option α} {f : α → Option β} (h : a = a') : a.bind f = a'.bind f := by rw [h]
theorem lz_ite {α : Type} {c c' : Prop} [s : Decidable c] [s' : Decidable c'] {t e : α} (h : c = c') : ite c t e = ite c' t e := by
  subst h; rw [Subsingleton.elim s s']
attribute [local congr] lz_bind lz_ite
theorem bs {α β : Type} (a : α) (f : α → Option β) : (some a).bind f = f a := by simp
theorem itt {α : Type} (t e : α) : (if (true = true) then t else e) = t := by simp
theorem ift {α : Type} (t e : α) : (if (false = true) then t else e) = e := by simp
theorem ifT {α : Type} (t e : α) : (if True then t else e) = t := by simp
theorem ifF {α : Type} (t e : α) : (if False then t else e) = e := by simp

theorem tattingref1_SameTokens_l0 (x : List (List Int)) (hx : x.length ≤ 1000000) : ∀ (d k p : Nat), p + d = x.length → d < k → tattingref1_SameTokens.l0 k x x p = some true := by
  intro d
  induction d with
  | zero =>
    intro k p hp hk
    obtain ⟨k, rfl⟩ : ∃ m, k = m + 1 := ⟨k - 1, by omega⟩
    rw [tattingref1_SameTokens.l0, if_neg (by omega)]
  | succ d ih =>
    intro k p hp hk
    obtain ⟨k, rfl⟩ : ∃ m, k = m + 1 := ⟨k - 1, by omega⟩
    have h4 := ih k (p + 1) (by omega) (by omega)
    simp only [Int.natCast_add, Int.cast_ofNat_Int] at h4
    rw [tattingref1_SameTokens.l0, if_pos (by omega), if_pos (by omega), if_pos (by omega), if_pos rfl, wr (by omega) (by omega), h4]
theorem tattingref1_SameTokens_same (x : List (List Int)) (hx : x.length ≤ 1000000) (k : Nat) (hk : x.length < k) : tattingref1_SameTokens.f k x x = some true := by
  unfold tattingref1_SameTokens.f
  rw [if_pos rfl]
  exact tattingref1_SameTokens_l0 x hx x.length k 0 (by omega) hk

def tokNE (l : List (List Int)) : Bool := l.all fun t => decide (t.length ≠ 0)
def hGood (h : S28) : Bool := decide (h.f1.length + h.f2.length ≠ 0) && (tokNE h.f1 && tokNE h.f2)
def goodFrom : Int → List S28 → Bool
  | _, [] => true
  | e, h :: s => decide (e < h.f0) && (decide (h.f0 ≤ 1048576) && (hGood h && goodFrom (h.f0 + h.f1.length) s))
def fewB (l : List (List Int)) : Bool := decide (l.length ≤ 30) && l.all fun t => decide (t.length ≤ 30)
def smallB (s : List S28) : Bool := decide (s.length ≤ 12) && s.all fun h => fewB h.f1 && fewB h.f2
theorem drop_tok {l : List (List Int)} {j : Nat} (h : j < l.length) : l.drop j = l.getD j [] :: l.drop (j + 1) := by
  rw [List.drop_eq_getElem_cons h]; simp [List.getD_eq_getElem?_getD, h]
theorem drop_hunk {s : List S28} {j : Nat} (h : j < s.length) : s.drop j = s.getD j z28 :: s.drop (j + 1) := by
  rw [List.drop_eq_getElem_cons h]; simp [List.getD_eq_getElem?_getD, h]
theorem rd_tok (l : List (List Int)) (j : Nat) : rd_L1 l (j : Int) = l.getD j [] := rfl
theorem rd_hunk (s : List S28) (j : Nat) : rd_T28 s (j : Int) = s.getD j z28 := rfl
theorem fewB_len {l : List (List Int)} (h : fewB l = true) : l.length ≤ 30 := by
  unfold fewB at h; rw [Bool.and_eq_true] at h; exact of_decide_eq_true h.1
theorem fewB_tok {l : List (List Int)} (h : fewB l = true) : ∀ t ∈ l, t.length ≤ 30 := by
  unfold fewB at h; rw [Bool.and_eq_true] at h
  intro t ht
  exact of_decide_eq_true (List.all_eq_true.1 h.2 t ht)
theorem smallB_len {s : List S28} (h : smallB s = true) : s.length ≤ 12 := by
  unfold smallB at h; rw [Bool.and_eq_true] at h; exact of_decide_eq_true h.1
theorem smallB_at {s : List S28} (h : smallB s = true) : ∀ x ∈ s, fewB x.f1 = true ∧ fewB x.f2 = true := by
  unfold smallB at h; rw [Bool.and_eq_true] at h
  intro x hx
  have := List.all_eq_true.1 h.2 x hx
  rwa [Bool.and_eq_true] at this
theorem few_l0 (l : List (List Int)) (hl : l.length ≤ 30) : ∀ (d k p : Nat), p + d = l.length → d < k → tattinglaw25_few.l0 k l p = some ((l.drop p).all fun t => decide (t.length ≤ 30)) := by
  intro d
  induction d with
  | zero =>
    intro k p hp hk
    obtain ⟨k, rfl⟩ : ∃ m, k = m + 1 := ⟨k - 1, by omega⟩
    rw [tattinglaw25_few.l0, if_neg (by omega), List.drop_eq_nil_of_le (by omega)]; rfl
  | succ d ih =>
    intro k p hp hk
    obtain ⟨k, rfl⟩ : ∃ m, k = m + 1 := ⟨k - 1, by omega⟩
    have h4 := ih k (p + 1) (by omega) (by omega)
    simp only [Int.natCast_add, Int.cast_ofNat_Int] at h4
    rw [tattinglaw25_few.l0, if_pos (by omega), if_pos (by omega), rd_tok, wr (by omega) (by omega), h4, drop_tok (show p < l.length by omega), List.all_cons]
    by_cases c : (l.getD p []).length ≤ 30
    · rw [if_neg (by omega), decide_eq_true c, Bool.true_and]
    · rw [if_pos (by omega), decide_eq_false c, Bool.false_and]
theorem few_eq (l : List (List Int)) (k : Nat) (hk : 40 ≤ k) : tattinglaw25_few.f k l = some (fewB l) := by
  unfold tattinglaw25_few.f fewB
  by_cases c : l.length ≤ 30
  · rw [if_neg (by omega), decide_eq_true c, Bool.true_and]
    exact few_l0 l c l.length k 0 (by omega) (by omega)
  · rw [if_pos (by omega), decide_eq_false c, Bool.false_and]
theorem small_l0 (s : List S28) (hs : s.length ≤ 12) : ∀ (d k p : Nat), p + d = s.length → d + 40 ≤ k → tattinglaw25_small.l0 k s p = some ((s.drop p).all fun h => fewB h.f1 && fewB h.f2) := by
  intro d
  induction d with
  | zero =>
    intro k p hp hk
    obtain ⟨k, rfl⟩ : ∃ m, k = m + 1 := ⟨k - 1, by omega⟩
    rw [tattinglaw25_small.l0, if_neg (by omega), List.drop_eq_nil_of_le (by omega)]; rfl
  | succ d ih =>
    intro k p hp hk
    obtain ⟨k, rfl⟩ : ∃ m, k = m + 1 := ⟨k - 1, by omega⟩
    have h4 := ih k (p + 1) (by omega) (by omega)
    simp only [Int.natCast_add, Int.cast_ofNat_Int] at h4
    rw [tattinglaw25_small.l0, if_pos (by omega), if_pos (by omega), rd_hunk, wr (by omega) (by omega), few_eq _ _ (by omega), few_eq _ _ (by omega), bs, bs, h4, drop_hunk (show p < s.length by omega), List.all_cons]
    cases fewB (s.getD p z28).f1 <;> cases fewB (s.getD p z28).f2 <;> simp
theorem small_eq (s : List S28) (k : Nat) (hk : 60 ≤ k) : tattinglaw25_small.f k s = some (smallB s) := by
  unfold tattinglaw25_small.f smallB
  by_cases c : s.length ≤ 12
  · rw [if_neg (by omega), decide_eq_true c, Bool.true_and]
    exact small_l0 s c s.length k 0 (by omega) (by omega)
  · rw [if_pos (by omega), decide_eq_false c, Bool.false_and]
theorem all_l0 (l : List (List Int)) (hl : l.length ≤ 30) : ∀ (d k p : Nat), p + d = l.length → d < k → edit_all.l0 k l (l.length : Int) p = some (tokNE (l.drop p)) := by
  intro d
  induction d with
  | zero =>
    intro k p hp hk
    obtain ⟨k, rfl⟩ : ∃ m, k = m + 1 := ⟨k - 1, by omega⟩
    rw [edit_all.l0, if_neg (by omega), List.drop_eq_nil_of_le (by omega)]; rfl
  | succ d ih =>
    intro k p hp hk
    obtain ⟨k, rfl⟩ : ∃ m, k = m + 1 := ⟨k - 1, by omega⟩
    have h4 := ih k (p + 1) (by omega) (by omega)
    simp only [Int.natCast_add, Int.cast_ofNat_Int] at h4
    rw [edit_all.l0, if_pos (by omega), if_pos (by omega), if_pos (by omega), rd_tok, wr (by omega) (by omega), h4, drop_tok (show p < l.length by omega)]
    unfold tokNE
    rw [List.all_cons]
    by_cases c : (l.getD p []).length = 0
    · rw [if_pos (by omega), decide_eq_false (by omega), Bool.false_and]
    · rw [if_neg (by omega), decide_eq_true c, Bool.true_and]
theorem all_eq (l : List (List Int)) (hl : l.length ≤ 30) (k : Nat) (hk : 40 ≤ k) : edit_all.f k l = some (tokNE l) := by
  unfold edit_all.f
  exact all_l0 l hl l.length k 0 (by omega) (by omega)
theorem getD_mem28 {s : List S28} {p : Nat} (h : p < s.length) : s.getD p z28 ∈ s := by
  rw [List.getD_eq_getElem?_getD, List.getElem?_eq_getElem h]; exact List.getElem_mem h
theorem editGood_l0 (s : List S28) (hs : smallB s = true) : ∀ (d k p : Nat) (e : Int), -1 ≤ e → p + d = s.length → d + 60 ≤ k → edit_Good.l0 k e s (s.length : Int) p = some (goodFrom e (s.drop p)) := by
  have hl := smallB_len hs
  intro d
  induction d with
  | zero =>
    intro k p e he hp hk
    obtain ⟨k, rfl⟩ : ∃ m, k = m + 1 := ⟨k - 1, by omega⟩
    rw [edit_Good.l0, if_neg (by omega), List.drop_eq_nil_of_le (by omega)]; rfl
  | succ d ih =>
    intro k p e he hp hk
    obtain ⟨k, rfl⟩ : ∃ m, k = m + 1 := ⟨k - 1, by omega⟩
    obtain ⟨h1, h2⟩ := smallB_at hs _ (getD_mem28 (show p < s.length by omega))
    have g1 := fewB_len h1
    have g2 := fewB_len h2
    rw [edit_Good.l0, if_pos (by omega), if_pos (by omega), if_pos (by omega), rd_hunk, drop_hunk (show p < s.length by omega), goodFrom]
    generalize s.getD p z28 = x at g1 g2
    by_cases c1 : e < x.f0
    · rw [if_neg (by omega), decide_eq_true c1, Bool.true_and]
      by_cases c2 : x.f0 ≤ 1048576
      · rw [if_neg (by omega), decide_eq_true c2, Bool.true_and, wr (x := (x.f1.length : Int) + (x.f2.length : Int)) (by omega) (by omega)]
        unfold hGood
        by_cases c3 : x.f1.length + x.f2.length = 0
        · rw [if_pos (by omega), decide_eq_false (by omega)]; rfl
        · rw [if_neg (by omega), decide_eq_true c3, Bool.true_and, all_eq _ g1 _ (by omega), all_eq _ g2 _ (by omega), bs, bs]
          cases c4 : tokNE x.f1
          · simp
          · cases c5 : tokNE x.f2
            · simp
            · rw [itt, itt]
              have h4 := ih k (p + 1) (x.f0 + x.f1.length) (by omega) (by omega) (by omega)
              simp only [Int.natCast_add, Int.cast_ofNat_Int] at h4
              rw [wr (by omega) (by omega), wr (by omega) (by omega), h4, Bool.true_and, Bool.true_and]
      · rw [if_pos (by omega), decide_eq_false c2, Bool.false_and]
    · rw [if_pos (by omega), decide_eq_false c1, Bool.false_and]
theorem editGood_eq (s : List S28) (hs : smallB s = true) (k : Nat) (hk : 80 ≤ k) : edit_Good.f k s = some (goodFrom (-1) s) := by
  have hl := smallB_len hs
  unfold edit_Good.f
  exact editGood_l0 s hs s.length k 0 (-1) (by omega) (by omega) (by omega)

theorem refGood_l2 (s : List S28) (p : Nat) (hp : p + 1 < 1000) (a : Int) (f1 f2 : List (List Int)) (h2 : f2.length ≤ 30) (K : Nat) (v : Bool) (hv : ∀ k, K ≤ k → tattingref24_Good.l0 k s (p + 1 : Nat) = some v) :
    ∀ (d k q : Nat), q + d = f2.length → K + d + 1 ≤ k → tattingref24_Good.l2 k s p q a f1 f2 = some (tokNE (f2.drop q) && v) := by
  intro d
  induction d with
  | zero =>
    intro k q hq hk
    obtain ⟨k, rfl⟩ : ∃ m, k = m + 1 := ⟨k - 1, by omega⟩
    have h4 := hv k (by omega)
    simp only [Int.natCast_add, Int.cast_ofNat_Int] at h4
    rw [tattingref24_Good.l2, if_neg (by omega), wr (by omega) (by omega), h4, List.drop_eq_nil_of_le (by omega)]; rfl
  | succ d ih =>
    intro k q hq hk
    obtain ⟨k, rfl⟩ : ∃ m, k = m + 1 := ⟨k - 1, by omega⟩
    have h4 := ih k (q + 1) (by omega) (by omega)
    simp only [Int.natCast_add, Int.cast_ofNat_Int] at h4
    rw [tattingref24_Good.l2, if_pos (by omega), if_pos (by omega), rd_tok, wr (by omega) (by omega), h4, drop_tok (show q < f2.length by omega)]
    unfold tokNE
    rw [List.all_cons]
    by_cases c : (f2.getD q []).length = 0
    · rw [if_pos (by omega), decide_eq_false (by omega), Bool.false_and, Bool.false_and]
    · rw [if_neg (by omega), decide_eq_true c, Bool.true_and]
theorem refGood_l1 (s : List S28) (p : Nat) (hp : p + 1 < 1000) (a : Int) (f1 f2 : List (List Int)) (h1 : f1.length ≤ 30) (h2 : f2.length ≤ 30) (K : Nat) (v : Bool) (hv : ∀ k, K ≤ k → tattingref24_Good.l0 k s (p + 1 : Nat) = some v) :
    ∀ (d k q : Nat), q + d = f1.length → K + d + 35 ≤ k → tattingref24_Good.l1 k s p q a f1 f2 = some (tokNE (f1.drop q) && (tokNE f2 && v)) := by
  intro d
  induction d with
  | zero =>
    intro k q hq hk
    obtain ⟨k, rfl⟩ : ∃ m, k = m + 1 := ⟨k - 1, by omega⟩
    have h4 := refGood_l2 s p hp a f1 f2 h2 K v hv f2.length k 0 (by omega) (by omega)
    rw [tattingref24_Good.l1, if_neg (by omega), List.drop_eq_nil_of_le (by omega)]
    exact h4
  | succ d ih =>
    intro k q hq hk
    obtain ⟨k, rfl⟩ : ∃ m, k = m + 1 := ⟨k - 1, by omega⟩
    have h4 := ih k (q + 1) (by omega) (by omega)
    simp only [Int.natCast_add, Int.cast_ofNat_Int] at h4
    rw [tattingref24_Good.l1, if_pos (by omega), if_pos (by omega), rd_tok, wr (by omega) (by omega), h4, drop_tok (show q < f1.length by omega)]
    have e : tokNE (f1.getD q [] :: f1.drop (q + 1)) = (decide ((f1.getD q []).length ≠ 0) && tokNE (f1.drop (q + 1))) := rfl
    rw [e]
    by_cases c : (f1.getD q []).length = 0
    · rw [if_pos (by omega), decide_eq_false (by omega), Bool.false_and, Bool.false_and]
    · rw [if_neg (by omega), decide_eq_true c, Bool.true_and]
theorem refGood_l0 (s : List S28) (hs : smallB s = true) : ∀ (d p : Nat) (e : Int), (p = 0 ∧ e = -1 ∨ ∃ q, p = q + 1 ∧ 0 ≤ (s.getD q z28).f0 ∧ (s.getD q z28).f0 ≤ 1048576 ∧ e = (s.getD q z28).f0 + (s.getD q z28).f1.length) → p + d = s.length →
    ∀ k, d * 80 + 1 ≤ k → tattingref24_Good.l0 k s p = some (goodFrom e (s.drop p)) := by
  have hl := smallB_len hs
  intro d
  induction d with
  | zero =>
    intro p e he hp k hk
    obtain ⟨k, rfl⟩ : ∃ m, k = m + 1 := ⟨k - 1, by omega⟩
    rw [tattingref24_Good.l0, if_neg (by omega), List.drop_eq_nil_of_le (by omega)]; rfl
  | succ d ih =>
    intro p e he hp k hk
    obtain ⟨k, rfl⟩ : ∃ m, k = m + 1 := ⟨k - 1, by omega⟩
    obtain ⟨k, rfl⟩ : ∃ m, k = m + 1 := ⟨k - 1, by omega⟩
    obtain ⟨k, rfl⟩ : ∃ m, k = m + 1 := ⟨k - 1, by omega⟩
    obtain ⟨h1, h2⟩ := smallB_at hs _ (getD_mem28 (show p < s.length by omega))
    have g1 := fewB_len h1
    have g2 := fewB_len h2
    have hnext := ih (p + 1) ((s.getD p z28).f0 + (s.getD p z28).f1.length)
    rw [tattingref24_Good.l0, if_pos (by omega), if_pos (by omega), rd_hunk, drop_hunk (show p < s.length by omega), goodFrom]
    generalize hx : s.getD p z28 = x at g1 g2 hnext
    by_cases c0 : x.f0 < 0
    · have he1 : ¬ e < x.f0 := by rcases he with ⟨_, h⟩ | ⟨q, _, h3, _, h⟩ <;> omega
      rw [if_pos c0, tattingref24_Good.j1, if_pos rfl, decide_eq_false he1, Bool.false_and]
    · rw [if_neg c0]
      by_cases c2 : x.f0 ≤ 1048576
      · rw [if_neg (by omega), decide_eq_true c2, Bool.true_and, wr (x := (x.f1.length : Int) + (x.f2.length : Int)) (by omega) (by omega)]
        have hv := hnext (.inr ⟨p, rfl, by rw [hx]; omega, by rw [hx]; omega, by rw [hx]⟩) (by omega)
        have hg : hGood x = (decide (x.f1.length + x.f2.length ≠ 0) && (tokNE x.f1 && tokNE x.f2)) := rfl
        by_cases c3 : x.f1.length + x.f2.length = 0
        · have e3 : (((x.f1.length : Int) + (x.f2.length : Int)) == 0) = true := by rw [beq_iff_eq]; omega
          rw [e3, tattingref24_Good.j1, if_pos rfl, hg, decide_eq_false (p := x.f1.length + x.f2.length ≠ 0) (by omega)]; simp
        · have e3 : (((x.f1.length : Int) + (x.f2.length : Int)) == 0) = false := by rw [beq_eq_false_iff_ne]; omega
          have hl1 := refGood_l1 s p (by omega) x.f0 x.f1 x.f2 g1 g2 (d * 80 + 1) (goodFrom (x.f0 + x.f1.length) (s.drop (p + 1))) hv x.f1.length k 0 (by omega) (by omega)
          rw [List.drop_zero] at hl1
          have hl1 : tattingref24_Good.l1 k s p 0 x.f0 x.f1 x.f2 = _ := hl1
          rw [e3, tattingref24_Good.j1, if_neg (by decide), hg, decide_eq_true c3, Bool.true_and]
          rcases he with ⟨rfl, rfl⟩ | ⟨q, rfl, h3, h4, rfl⟩
          · rw [if_neg (by omega), tattingref24_Good.j2, if_neg (by decide), hl1, decide_eq_true (by omega), Bool.true_and, Bool.and_assoc]
          · obtain ⟨h5, h6⟩ := smallB_at hs _ (getD_mem28 (show q < s.length by omega))
            have g5 := fewB_len h5
            have e5 : ((q + 1 : Nat) : Int) - 1 = (q : Int) := by omega
            rw [if_pos (by omega), wr (x := ((q + 1 : Nat) : Int) - 1) (by omega) (by omega), e5, if_pos (by omega), if_pos (by omega), rd_hunk, wr (by omega) (by omega)]
            generalize s.getD q z28 = y at h3 h4 g5
            by_cases c6 : x.f0 - y.f0 ≤ (y.f1.length : Int)
            · rw [decide_eq_true c6, tattingref24_Good.j2, if_pos rfl, decide_eq_false (by omega), Bool.false_and]
            · rw [decide_eq_false c6, tattingref24_Good.j2, if_neg (by decide), hl1, decide_eq_true (by omega), Bool.true_and, Bool.and_assoc]
      · rw [if_pos (by omega), tattingref24_Good.j1, if_pos rfl, decide_eq_false c2]; simp
theorem refGood_eq (s : List S28) (hs : smallB s = true) (k : Nat) (hk : 1000 ≤ k) : tattingref24_Good.f k s = some (goodFrom (-1) s) := by
  have hl := smallB_len hs
  unfold tattingref24_Good.f
  exact refGood_l0 s hs s.length 0 (-1) (.inl ⟨rfl, rfl⟩) (by omega) k (by omega)

def invFrom : List S28 → List S28 → Int → (List S28 × Int)
  | [], t, _ => (t, 0)
  | h :: s, t, sh => if h.f0 + sh > 1048576 then ([], 2) else invFrom s (t ++ [⟨h.f0 + sh, h.f2, h.f1⟩]) (sh + ((h.f2.length : Int) - (h.f1.length : Int)))
def invMap : List S28 → Int → List S28
  | [], _ => []
  | h :: s, sh => ⟨h.f0 + sh, h.f2, h.f1⟩ :: invMap s (sh + ((h.f2.length : Int) - (h.f1.length : Int)))
def pInv (s : List S28) : List S28 × Int := if goodFrom (-1) s = true then invFrom s [] 0 else ([], 1)
theorem tokOk_few {l : List (List Int)} (h : fewB l = true) : tokOk l = true := by
  refine List.all_eq_true.2 fun t ht => decide_eq_true ?_
  have := fewB_tok h t ht
  omega
theorem more_few {l t : List (List Int)} (hl : l.length ≤ 1000000) (ht : fewB t = true) : patch_more.f l t = some (l ++ t) := by
  have := fewB_len ht
  unfold patch_more.f
  rw [if_pos (by omega), if_pos (tokOk_few ht)]
theorem smallB_cons {h : S28} {s : List S28} (hs : smallB (h :: s) = true) : fewB h.f1 = true ∧ fewB h.f2 = true ∧ smallB s = true := by
  have h1 := smallB_len hs
  have h2 := smallB_at hs
  refine ⟨(h2 h (by simp)).1, (h2 h (by simp)).2, ?_⟩
  unfold smallB
  rw [Bool.and_eq_true]
  simp only [List.length_cons] at h1
  refine ⟨decide_eq_true (by omega), List.all_eq_true.2 fun x hx => ?_⟩
  rw [Bool.and_eq_true]
  exact h2 x (by simp [hx])
theorem goodFrom_cons {e : Int} {h : S28} {s : List S28} (hg : goodFrom e (h :: s) = true) : e < h.f0 ∧ h.f0 ≤ 1048576 ∧ hGood h = true ∧ goodFrom (h.f0 + h.f1.length) s = true := by
  simp only [goodFrom, Bool.and_eq_true, decide_eq_true_eq] at hg
  exact hg
theorem small60_of {x : Int} (h : -1000000000 ≤ x) (h' : x ≤ 1000000000) : small60 x = true := decide_eq_true ⟨by omega, by omega⟩
theorem patchInv_l0 : ∀ (s t : List S28) (sh e : Int), smallB s = true → goodFrom e s = true → -1 ≤ e → -1000 * (13 - (s.length : Int)) ≤ sh → sh ≤ 1000 * (13 - (s.length : Int)) → t.length + s.length ≤ 12 → patch_Invert.l0 s t sh = some (invFrom s t sh)
  | [], t, sh, e, _, _, _, _, _, _ => rfl
  | h :: s, t, sh, e, hs, hg, he, h1, h2, h3 => by
    obtain ⟨f1, f2, f3⟩ := smallB_cons hs
    obtain ⟨g1, g2, _, g4⟩ := goodFrom_cons hg
    have l1 := fewB_len f1
    have l2 := fewB_len f2
    simp only [List.length_cons] at h1 h2 h3
    rw [patch_Invert.l0, invFrom, if_pos ⟨small60_of (by omega) (by omega), small60_of (by omega) (by omega)⟩]
    by_cases c : h.f0 + sh > 1048576
    · rw [if_pos c, if_pos c]
    · rw [if_neg c, if_neg c, if_pos (by omega), more_few (by simp) f2, more_few (by simp) f1, bs, bs, List.nil_append, List.nil_append]
      exact patchInv_l0 s _ _ (h.f0 + h.f1.length) f3 g4 (by omega) (by omega) (by omega) (by simp; omega)
theorem patchInv_eq (s : List S28) (hs : smallB s = true) (k : Nat) (hk : 80 ≤ k) : patch_Invert.f k s = some (pInv s) := by
  unfold patch_Invert.f pInv
  rw [editGood_eq s hs k hk, bs]
  have hl := smallB_len hs
  by_cases c : goodFrom (-1) s = true
  · rw [if_pos c, if_pos c]
    exact patchInv_l0 s [] 0 (-1) hs c (by omega) (by omega) (by omega) (by simp; omega)
  · rw [if_neg c, if_neg c]
theorem refInv_l0 (s : List S28) (hs : smallB s = true) : ∀ (d k p : Nat) (t : List S28) (sh e : Int), goodFrom e (s.drop p) = true → -1 ≤ e → -1000 * ((p : Int) + 1) ≤ sh → sh ≤ 1000 * ((p : Int) + 1) → t.length = p → p + d = s.length → d < k → tattingref24_Invert.l0 k s t sh p = some (invFrom (s.drop p) t sh) := by
  have hl := smallB_len hs
  intro d
  induction d with
  | zero =>
    intro k p t sh e hg he h1 h2 ht hp hk
    obtain ⟨k, rfl⟩ : ∃ m, k = m + 1 := ⟨k - 1, by omega⟩
    rw [tattingref24_Invert.l0, if_neg (by omega), List.drop_eq_nil_of_le (by omega)]; rfl
  | succ d ih =>
    intro k p t sh e hg he h1 h2 ht hp hk
    obtain ⟨k, rfl⟩ : ∃ m, k = m + 1 := ⟨k - 1, by omega⟩
    obtain ⟨f1, f2⟩ := smallB_at hs _ (getD_mem28 (show p < s.length by omega))
    rw [drop_hunk (show p < s.length by omega)] at hg ⊢
    rw [tattingref24_Invert.l0, if_pos (by omega), if_pos (by omega), rd_hunk, invFrom]
    generalize s.getD p z28 = x at f1 f2 hg
    have l1 := fewB_len f1
    have l2 := fewB_len f2
    obtain ⟨g1, g2, _, g4⟩ := goodFrom_cons hg
    have h4 := ih k (p + 1) (t ++ [⟨x.f0 + sh, x.f2, x.f1⟩]) (sh + ((x.f2.length : Int) - (x.f1.length : Int))) (x.f0 + x.f1.length) g4 (by omega) (by omega) (by omega) (by simp [ht]) (by omega) (by omega)
    simp only [Int.natCast_add, Int.cast_ofNat_Int] at h4
    have e1 : sh + (x.f2.length : Int) - (x.f1.length : Int) = sh + ((x.f2.length : Int) - (x.f1.length : Int)) := by omega
    rw [wr (x := x.f0 + sh) (by omega) (by omega), wr (x := sh + (x.f2.length : Int)) (by omega) (by omega), wr (x := sh + (x.f2.length : Int) - (x.f1.length : Int)) (by omega) (by omega), wr (x := (p : Int) + 1) (by omega) (by omega), e1, h4]
    by_cases c : x.f0 + sh > 1048576
    · rw [if_pos c, if_pos c]
    · rw [if_neg c, if_neg c, if_pos (by omega)]
theorem refInv_eq (s : List S28) (hs : smallB s = true) (k : Nat) (hk : 1000 ≤ k) : tattingref24_Invert.f k s = some (pInv s) := by
  have hl := smallB_len hs
  unfold tattingref24_Invert.f pInv
  rw [refGood_eq s hs k hk, bs]
  by_cases c : goodFrom (-1) s = true
  · rw [if_pos c, if_pos c]
    exact refInv_l0 s hs s.length k 0 [] 0 (-1) c (by omega) (by omega) (by omega) rfl (by omega) (by omega)
  · rw [if_neg c, if_neg c]
theorem invFrom_map : ∀ (s t : List S28) (sh : Int), (invFrom s t sh).2 = 0 → invFrom s t sh = (t ++ invMap s sh, 0)
  | [], t, _, _ => by simp [invFrom, invMap]
  | h :: s, t, sh, h0 => by
    rw [invFrom] at h0 ⊢
    by_cases c : h.f0 + sh > 1048576
    · rw [if_pos c] at h0; cases h0
    · rw [if_neg c] at h0 ⊢
      rw [invFrom_map s _ _ h0, invMap, List.append_assoc]; rfl
theorem invFrom_some : ∀ (s t : List S28) (sh : Int), (∀ x ∈ invMap s sh, x.f0 ≤ 1048576) → invFrom s t sh = (t ++ invMap s sh, 0)
  | [], t, _, _ => by simp [invFrom, invMap]
  | h :: s, t, sh, h0 => by
    have h1 := h0 ⟨h.f0 + sh, h.f2, h.f1⟩ (by simp [invMap])
    rw [invFrom, if_neg (by simp only at h1; omega), invFrom_some s _ _ (fun x hx => h0 x (by simp [invMap, hx])), invMap, List.append_assoc]; rfl
theorem invMap_le : ∀ (s t : List S28) (sh : Int), (invFrom s t sh).2 = 0 → ∀ x ∈ invMap s sh, x.f0 ≤ 1048576
  | [], _, _, _ => by simp [invMap]
  | h :: s, t, sh, h0 => by
    rw [invFrom] at h0
    by_cases c : h.f0 + sh > 1048576
    · rw [if_pos c] at h0; cases h0
    · rw [if_neg c] at h0
      intro x hx
      simp only [invMap, List.mem_cons] at hx
      rcases hx with rfl | hx
      · show h.f0 + sh ≤ 1048576
        omega
      · exact invMap_le s _ _ h0 x hx
theorem invMap_good : ∀ (s : List S28) (sh e : Int), goodFrom e s = true → (∀ x ∈ invMap s sh, x.f0 ≤ 1048576) → goodFrom (e + sh) (invMap s sh) = true
  | [], _, _, _, _ => rfl
  | h :: s, sh, e, hg, hx => by
    obtain ⟨g1, g2, g3, g4⟩ := goodFrom_cons hg
    have h1 := hx ⟨h.f0 + sh, h.f2, h.f1⟩ (by simp [invMap])
    have h2 := invMap_good s (sh + ((h.f2.length : Int) - (h.f1.length : Int))) _ g4 (fun x hm => hx x (by simp [invMap, hm]))
    simp only at h1
    simp only [invMap, goodFrom, Bool.and_eq_true, decide_eq_true_eq]
    refine ⟨by omega, h1, ?_, ?_⟩
    · unfold hGood at g3 ⊢
      simp only [Bool.and_eq_true, decide_eq_true_eq] at g3 ⊢
      exact ⟨by omega, g3.2.2, g3.2.1⟩
    · rw [show h.f0 + sh + (h.f2.length : Int) = h.f0 + (h.f1.length : Int) + (sh + ((h.f2.length : Int) - (h.f1.length : Int))) by omega]
      exact h2
theorem invMap_back : ∀ (s : List S28) (sh : Int), invMap (invMap s sh) (-sh) = s
  | [], _ => rfl
  | h :: s, sh => by
    have h2 := invMap_back s (sh + ((h.f2.length : Int) - (h.f1.length : Int)))
    simp only [invMap]
    rw [show -sh + ((h.f1.length : Int) - (h.f2.length : Int)) = -(sh + ((h.f2.length : Int) - (h.f1.length : Int))) by omega, h2, show h.f0 + sh + -sh = h.f0 by omega]
theorem invMap_length : ∀ (s : List S28) (sh : Int), (invMap s sh).length = s.length
  | [], _ => rfl
  | h :: s, sh => by simp [invMap, invMap_length s]
theorem invMap_few : ∀ (s : List S28) (sh : Int), (∀ x ∈ s, fewB x.f1 = true ∧ fewB x.f2 = true) → ∀ x ∈ invMap s sh, fewB x.f1 = true ∧ fewB x.f2 = true
  | [], _, _ => by simp [invMap]
  | h :: s, sh, hx => by
    intro x hm
    simp only [invMap, List.mem_cons] at hm
    rcases hm with rfl | hm
    · exact ⟨(hx h (by simp)).2, (hx h (by simp)).1⟩
    · exact invMap_few s _ (fun y hy => hx y (by simp [hy])) x hm
theorem invMap_small {s : List S28} (hs : smallB s = true) (sh : Int) : smallB (invMap s sh) = true := by
  unfold smallB
  rw [Bool.and_eq_true]
  refine ⟨decide_eq_true (by rw [invMap_length]; exact smallB_len hs), List.all_eq_true.2 fun x hx => ?_⟩
  rw [Bool.and_eq_true]
  exact invMap_few s sh (smallB_at hs) x hx
/-- What is turned round twice is as it was. -/
theorem pInv_back {s : List S28} (hs : smallB s = true) (h0 : (pInv s).2 = 0) : pInv s = (invMap s 0, 0) ∧ smallB (invMap s 0) = true ∧ goodFrom (-1) s = true ∧ pInv (invMap s 0) = (s, 0) := by
  unfold pInv at h0
  by_cases c : goodFrom (-1) s = true
  · rw [if_pos c] at h0
    have h1 := invFrom_map s [] 0 h0
    have h2 := invMap_le s [] 0 h0
    have h3 := invMap_good s 0 (-1) c h2
    rw [show (-1 : Int) + 0 = -1 by omega] at h3
    have h4 := invMap_back s 0
    rw [show (-0 : Int) = 0 by omega] at h4
    refine ⟨?_, invMap_small hs 0, c, ?_⟩
    · unfold pInv; rw [if_pos c, h1]; rfl
    · unfold pInv
      rw [if_pos h3, invFrom_some _ _ _ ?_, h4]; rfl
      rw [h4]
      intro x hx
      clear h1 h2 h3 h4 h0 hs
      suffices ∀ (s : List S28) (e : Int), goodFrom e s = true → ∀ x ∈ s, x.f0 ≤ 1048576 from this s _ c x hx
      intro s
      induction s with
      | nil => intro e _ x hx; simp at hx
      | cons h s ih =>
        intro e hg x hx
        obtain ⟨_, g2, _, g4⟩ := goodFrom_cons hg
        simp only [List.mem_cons] at hx
        rcases hx with rfl | hx
        · exact g2
        · exact ih _ g4 x hx
  · rw [if_neg c] at h0; cases h0

theorem sameHunks_l0 (s : List S28) (hs : smallB s = true) : ∀ (d k p : Nat), p + d = s.length → d + 60 ≤ k → tattingref24_Same.l0 k s s p = some true := by
  have hl := smallB_len hs
  intro d
  induction d with
  | zero =>
    intro k p hp hk
    obtain ⟨k, rfl⟩ : ∃ m, k = m + 1 := ⟨k - 1, by omega⟩
    rw [tattingref24_Same.l0, if_neg (by omega)]
  | succ d ih =>
    intro k p hp hk
    obtain ⟨k, rfl⟩ : ∃ m, k = m + 1 := ⟨k - 1, by omega⟩
    have h4 := ih k (p + 1) (by omega) (by omega)
    simp only [Int.natCast_add, Int.cast_ofNat_Int] at h4
    obtain ⟨f1, f2⟩ := smallB_at hs _ (getD_mem28 (show p < s.length by omega))
    have l1 := fewB_len f1
    have l2 := fewB_len f2
    rw [tattingref24_Same.l0, if_pos (by omega), if_pos (by omega), if_pos (by omega), if_pos rfl, rd_hunk, tattingref1_SameTokens_same _ (by omega) k (by omega), bs, if_pos rfl, tattingref1_SameTokens_same _ (by omega) k (by omega), bs, if_pos rfl, wr (by omega) (by omega), h4]
theorem sameHunks_eq (s : List S28) (hs : smallB s = true) (k : Nat) (hk : 80 ≤ k) : tattingref24_Same.f k s s = some true := by
  have hl := smallB_len hs
  unfold tattingref24_Same.f
  rw [if_pos rfl]
  exact sameHunks_l0 s hs s.length k 0 (by omega) (by omega)

theorem awake_ok : tattinglaw25_awake.f 1001 = some true := by decide +kernel
theorem pInv_small {s : List S28} (hs : smallB s = true) : smallB (pInv s).1 = true := by
  by_cases h0 : (pInv s).2 = 0
  · obtain ⟨h1, h2, _, _⟩ := pInv_back hs h0
    rw [h1]; exact h2
  · unfold pInv at h0 ⊢
    by_cases c : goodFrom (-1) s = true
    · rw [if_pos c] at h0 ⊢
      have : ∀ (s t : List S28) (sh : Int), (invFrom s t sh).2 ≠ 0 → (invFrom s t sh).1 = [] := by
        intro s
        induction s with
        | nil => intro t sh h; exact absurd rfl h
        | cons h s ih =>
          intro t sh hn
          rw [invFrom] at hn ⊢
          by_cases c : h.f0 + sh > 1048576
          · rw [if_pos c]
          · rw [if_neg c] at hn ⊢; exact ih _ _ hn
      rw [this s [] 0 h0]; decide
    · rw [if_neg c]; decide
theorem law_PatchInverts (s : List S28) : ∃ k, tattinglaw25_PatchInverts.f k s = some true := by
  refine ⟨1001, ?_⟩
  unfold tattinglaw25_PatchInverts.f
  rw [awake_ok, bs, if_pos rfl, small_eq s _ (by omega), bs]
  by_cases hs : smallB s = true
  · rw [if_pos hs, patchInv_eq s hs _ (by omega), bs, refInv_eq s hs _ (by omega), bs, if_pos rfl, sameHunks_eq _ (pInv_small hs) _ (by omega), bs, tattinglaw25_PatchInverts.j0, if_neg (by decide)]
    by_cases h0 : (pInv s).2 = 0
    · obtain ⟨h1, h2, _, h4⟩ := pInv_back hs h0
      rw [if_pos h0, h1, patchInv_eq _ h2 _ (by omega), bs, h4, if_pos rfl, sameHunks_eq s hs _ (by omega)]; rfl
    · rw [if_neg h0]
  · rw [if_neg hs]

end Go.Proofs.Ytlodaoijokfblaa.Pure
