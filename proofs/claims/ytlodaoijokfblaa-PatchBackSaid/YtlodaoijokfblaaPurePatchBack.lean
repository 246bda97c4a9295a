/- What was done is undone by the script turned round. Over lists alone. -/
import Derived.Test.YtlodaoijokfblaaPPatchBackx3
namespace Go.Proofs.Ytlodaoijokfblaa.Pure
open Go.RowKit Go.Proofs.YtlodaoijokfblaaW.PrintWords Go.Proofs.YtlodaoijokfblaaW.PrintLast Go.Proofs.YtlodaoijokfblaaW.PrintMore Go.Proofs.Ytlodaoijokfblaa.PPatchBack
set_option linter.unusedVariables false
set_option linter.unusedSimpArgs false

/-! Words for the pure side: whole numbers that do not wrap, reads of lists. -/
theorem wr {x : Int} (h : -9223372036854775808 ≤ x) (h' : x < 9223372036854775808) : wrap64 x = x := by unfold wrap64; omega
theorem rd_nat (xs : List Int) (n : Nat) : rd xs (n : Int) = xs.getD n 0 := rfl
theorem rd_at {xs : List Int} {i : Int} {n : Nat} (h : i = (n : Int)) : rd xs i = xs.getD n 0 := by subst h; rfl
theorem drop_getD {xs : List Int} {i : Nat} (h : i < xs.length) : xs.drop i = xs.getD i 0 :: xs.drop (i + 1) := by
  rw [List.drop_eq_getElem_cons h]; simp [List.getD_eq_getElem?_getD, h]
theorem take_getD {xs : List Int} {i : Nat} (h : i < xs.length) : xs.take (i + 1) = xs.take i ++ [xs.getD i 0] := by
  rw [List.take_succ_eq_append_getElem h]; simp [List.getD_eq_getElem?_getD, h]

theorem lz_bind {α β : Type} {a a' : Option α} {f : α → Option β} (h : a = a') : a.bind f = a'.bind f := by rw [h]
theorem lz_ite {α : Type} {c c' : Prop} [s : Decidable c] [s' : Decidable c'] {t e : α} (h : c = c') : ite c t e = ite c' t e := by
  subst h; rw [Subsingleton.elim s s']
attribute [local congr] lz_bind lz_ite
theorem bs {α β : Type} (a : α) (f : α → Option β) : (some a).bind f = f a := by simp
theorem itt {α : Type} (t e : α) : (if (true = true) then t else e) = t := by simp
theorem ift {α : Type} (t e : α) : (if (false = true) then t else e) = e := by simp
theorem ifT {α : Type} (t e : α) : (if True then t else e) = t := by simp
theorem ifF {α : Type} (t e : α) : (if False then t else e) = e := by simp

def tokNE (l : List (List Int)) : Bool := l.all fun t => decide (t.length ≠ 0)
def hGood (h : S28) : Bool := decide (h.f1.length + h.f2.length ≠ 0) && (tokNE h.f1 && tokNE h.f2)
def goodFrom : Int → List S28 → Bool
  | _, [] => true
  | e, h :: s => decide (e < h.f0) && (decide (h.f0 ≤ 1048576) && (hGood h && goodFrom (h.f0 + h.f1.length) s))
def fewB (l : List (List Int)) : Bool := decide (l.length ≤ 30) && l.all fun t => decide (t.length ≤ 30)
def smallB (s : List S28) : Bool := decide (s.length ≤ 12) && s.all fun h => fewB h.f1 && fewB h.f2
theorem drop_tok {l : List (List Int)} {j : Nat} (h : j < l.length) : l.drop j = l.getD j [] :: l.drop (j + 1) := by
  rw [List.drop_eq_getElem_cons h]; simp [List.getD_eq_getElem?_getD, h]
theorem drop_hunk {s : List S28} {j : Nat} (h : j < s.length) : s.drop j = s.getD j z28 :: s.drop (j + 1) := by
  rw [List.drop_eq_getElem_cons h]; simp [List.getD_eq_getElem?_getD, h]
theorem rd_tok (l : List (List Int)) (j : Nat) : rd_L1 l (j : Int) = l.getD j [] := rfl
theorem rd_hunk (s : List S28) (j : Nat) : rd_T28 s (j : Int) = s.getD j z28 := rfl
theorem fewB_len {l : List (List Int)} (h : fewB l = true) : l.length ≤ 30 := by
  unfold fewB at h; rw [Bool.and_eq_true] at h; exact of_decide_eq_true h.1
theorem fewB_tok {l : List (List Int)} (h : fewB l = true) : ∀ t ∈ l, t.length ≤ 30 := by
  unfold fewB at h; rw [Bool.and_eq_true] at h
  intro t ht
  exact of_decide_eq_true (List.all_eq_true.1 h.2 t ht)
theorem smallB_len {s : List S28} (h : smallB s = true) : s.length ≤ 12 := by
  unfold smallB at h; rw [Bool.and_eq_true] at h; exact of_decide_eq_true h.1
theorem smallB_at {s : List S28} (h : smallB s = true) : ∀ x ∈ s, fewB x.f1 = true ∧ fewB x.f2 = true := by
  unfold smallB at h; rw [Bool.and_eq_true] at h
  intro x hx
  have := List.all_eq_true.1 h.2 x hx
  rwa [Bool.and_eq_true] at this
theorem few_l0 (l : List (List Int)) (hl : l.length ≤ 30) : ∀ (d k p : Nat), p + d = l.length → d < k → tattinglaw25_few.l0 k l p = some ((l.drop p).all fun t => decide (t.length ≤ 30)) := by
  intro d
  induction d with
  | zero =>
    intro k p hp hk
    obtain ⟨k, rfl⟩ : ∃ m, k = m + 1 := ⟨k - 1, by omega⟩
    rw [tattinglaw25_few.l0, if_neg (by omega), List.drop_eq_nil_of_le (by omega)]; rfl
  | succ d ih =>
    intro k p hp hk
    obtain ⟨k, rfl⟩ : ∃ m, k = m + 1 := ⟨k - 1, by omega⟩
    have h4 := ih k (p + 1) (by omega) (by omega)
    simp only [Int.natCast_add, Int.cast_ofNat_Int] at h4
    rw [tattinglaw25_few.l0, if_pos (by omega), if_pos (by omega), rd_tok, wr (by omega) (by omega), h4, drop_tok (show p < l.length by omega), List.all_cons]
    by_cases c : (l.getD p []).length ≤ 30
    · rw [if_neg (by omega), decide_eq_true c, Bool.true_and]
    · rw [if_pos (by omega), decide_eq_false c, Bool.false_and]
theorem few_eq (l : List (List Int)) (k : Nat) (hk : 40 ≤ k) : tattinglaw25_few.f k l = some (fewB l) := by
  unfold tattinglaw25_few.f fewB
  by_cases c : l.length ≤ 30
  · rw [if_neg (by omega), decide_eq_true c, Bool.true_and]
    exact few_l0 l c l.length k 0 (by omega) (by omega)
  · rw [if_pos (by omega), decide_eq_false c, Bool.false_and]
theorem small_l0 (s : List S28) (hs : s.length ≤ 12) : ∀ (d k p : Nat), p + d = s.length → d + 40 ≤ k → tattinglaw25_small.l0 k s p = some ((s.drop p).all fun h => fewB h.f1 && fewB h.f2) := by
  intro d
  induction d with
  | zero =>
    intro k p hp hk
    obtain ⟨k, rfl⟩ : ∃ m, k = m + 1 := ⟨k - 1, by omega⟩
    rw [tattinglaw25_small.l0, if_neg (by omega), List.drop_eq_nil_of_le (by omega)]; rfl
  | succ d ih =>
    intro k p hp hk
    obtain ⟨k, rfl⟩ : ∃ m, k = m + 1 := ⟨k - 1, by omega⟩
    have h4 := ih k (p + 1) (by omega) (by omega)
    simp only [Int.natCast_add, Int.cast_ofNat_Int] at h4
    rw [tattinglaw25_small.l0, if_pos (by omega), if_pos (by omega), rd_hunk, wr (by omega) (by omega), few_eq _ _ (by omega), few_eq _ _ (by omega), bs, bs, h4, drop_hunk (show p < s.length by omega), List.all_cons]
    cases fewB (s.getD p z28).f1 <;> cases fewB (s.getD p z28).f2 <;> simp
theorem small_eq (s : List S28) (k : Nat) (hk : 60 ≤ k) : tattinglaw25_small.f k s = some (smallB s) := by
  unfold tattinglaw25_small.f smallB
  by_cases c : s.length ≤ 12
  · rw [if_neg (by omega), decide_eq_true c, Bool.true_and]
    exact small_l0 s c s.length k 0 (by omega) (by omega)
  · rw [if_pos (by omega), decide_eq_false c, Bool.false_and]
theorem all_l0 (l : List (List Int)) (hl : l.length ≤ 30) : ∀ (d k p : Nat), p + d = l.length → d < k → edit_all.l0 k l (l.length : Int) p = some (tokNE (l.drop p)) := by
  intro d
  induction d with
  | zero =>
    intro k p hp hk
    obtain ⟨k, rfl⟩ : ∃ m, k = m + 1 := ⟨k - 1, by omega⟩
    rw [edit_all.l0, if_neg (by omega), List.drop_eq_nil_of_le (by omega)]; rfl
  | succ d ih =>
    intro k p hp hk
    obtain ⟨k, rfl⟩ : ∃ m, k = m + 1 := ⟨k - 1, by omega⟩
    have h4 := ih k (p + 1) (by omega) (by omega)
    simp only [Int.natCast_add, Int.cast_ofNat_Int] at h4
    rw [edit_all.l0, if_pos (by omega), if_pos (by omega), if_pos (by omega), rd_tok, wr (by omega) (by omega), h4, drop_tok (show p < l.length by omega)]
    unfold tokNE
    rw [List.all_cons]
    by_cases c : (l.getD p []).length = 0
    · rw [if_pos (by omega), decide_eq_false (by omega), Bool.false_and]
    · rw [if_neg (by omega), decide_eq_true c, Bool.true_and]
theorem all_eq (l : List (List Int)) (hl : l.length ≤ 30) (k : Nat) (hk : 40 ≤ k) : edit_all.f k l = some (tokNE l) := by
  unfold edit_all.f
  exact all_l0 l hl l.length k 0 (by omega) (by omega)
theorem getD_mem28 {s : List S28} {p : Nat} (h : p < s.length) : s.getD p z28 ∈ s := by
  rw [List.getD_eq_getElem?_getD, List.getElem?_eq_getElem h]; exact List.getElem_mem h
theorem editGood_l0 (s : List S28) (hs : smallB s = true) : ∀ (d k p : Nat) (e : Int), -1 ≤ e → p + d = s.length → d + 60 ≤ k → edit_Good.l0 k e s (s.length : Int) p = some (goodFrom e (s.drop p)) := by
  have hl := smallB_len hs
  intro d
  induction d with
  | zero =>
    intro k p e he hp hk
    obtain ⟨k, rfl⟩ : ∃ m, k = m + 1 := ⟨k - 1, by omega⟩
    rw [edit_Good.l0, if_neg (by omega), List.drop_eq_nil_of_le (by omega)]; rfl
  | succ d ih =>
    intro k p e he hp hk
    obtain ⟨k, rfl⟩ : ∃ m, k = m + 1 := ⟨k - 1, by omega⟩
    obtain ⟨h1, h2⟩ := smallB_at hs _ (getD_mem28 (show p < s.length by omega))
    have g1 := fewB_len h1
    have g2 := fewB_len h2
    rw [edit_Good.l0, if_pos (by omega), if_pos (by omega), if_pos (by omega), rd_hunk, drop_hunk (show p < s.length by omega), goodFrom]
    generalize s.getD p z28 = x at g1 g2
    by_cases c1 : e < x.f0
    · rw [if_neg (by omega), decide_eq_true c1, Bool.true_and]
      by_cases c2 : x.f0 ≤ 1048576
      · rw [if_neg (by omega), decide_eq_true c2, Bool.true_and, wr (x := (x.f1.length : Int) + (x.f2.length : Int)) (by omega) (by omega)]
        unfold hGood
        by_cases c3 : x.f1.length + x.f2.length = 0
        · rw [if_pos (by omega), decide_eq_false (by omega)]; rfl
        · rw [if_neg (by omega), decide_eq_true c3, Bool.true_and, all_eq _ g1 _ (by omega), all_eq _ g2 _ (by omega), bs, bs]
          cases c4 : tokNE x.f1
          · simp
          · cases c5 : tokNE x.f2
            · simp
            · rw [itt, itt]
              have h4 := ih k (p + 1) (x.f0 + x.f1.length) (by omega) (by omega) (by omega)
              simp only [Int.natCast_add, Int.cast_ofNat_Int] at h4
              rw [wr (by omega) (by omega), wr (by omega) (by omega), h4, Bool.true_and, Bool.true_and]
      · rw [if_pos (by omega), decide_eq_false c2, Bool.false_and]
    · rw [if_pos (by omega), decide_eq_false c1, Bool.false_and]
theorem editGood_eq (s : List S28) (hs : smallB s = true) (k : Nat) (hk : 80 ≤ k) : edit_Good.f k s = some (goodFrom (-1) s) := by
  have hl := smallB_len hs
  unfold edit_Good.f
  exact editGood_l0 s hs s.length k 0 (-1) (by omega) (by omega) (by omega)

def invFrom : List S28 → List S28 → Int → (List S28 × Int)
  | [], t, _ => (t, 0)
  | h :: s, t, sh => if h.f0 + sh > 1048576 then ([], 2) else invFrom s (t ++ [⟨h.f0 + sh, h.f2, h.f1⟩]) (sh + ((h.f2.length : Int) - (h.f1.length : Int)))
def invMap : List S28 → Int → List S28
  | [], _ => []
  | h :: s, sh => ⟨h.f0 + sh, h.f2, h.f1⟩ :: invMap s (sh + ((h.f2.length : Int) - (h.f1.length : Int)))
def pInv (s : List S28) : List S28 × Int := if goodFrom (-1) s = true then invFrom s [] 0 else ([], 1)
theorem tokOk_few {l : List (List Int)} (h : fewB l = true) : tokOk l = true := by
  refine List.all_eq_true.2 fun t ht => decide_eq_true ?_
  have := fewB_tok h t ht
  omega
theorem more_few {l t : List (List Int)} (hl : l.length ≤ 1000000) (ht : fewB t = true) : patch_more.f l t = some (l ++ t) := by
  have := fewB_len ht
  unfold patch_more.f
  rw [if_pos (by omega), if_pos (tokOk_few ht)]
theorem smallB_cons {h : S28} {s : List S28} (hs : smallB (h :: s) = true) : fewB h.f1 = true ∧ fewB h.f2 = true ∧ smallB s = true := by
  have h1 := smallB_len hs
  have h2 := smallB_at hs
  refine ⟨(h2 h (by simp)).1, (h2 h (by simp)).2, ?_⟩
  unfold smallB
  rw [Bool.and_eq_true]
  simp only [List.length_cons] at h1
  refine ⟨decide_eq_true (by omega), List.all_eq_true.2 fun x hx => ?_⟩
  rw [Bool.and_eq_true]
  exact h2 x (by simp [hx])
theorem goodFrom_cons {e : Int} {h : S28} {s : List S28} (hg : goodFrom e (h :: s) = true) : e < h.f0 ∧ h.f0 ≤ 1048576 ∧ hGood h = true ∧ goodFrom (h.f0 + h.f1.length) s = true := by
  simp only [goodFrom, Bool.and_eq_true, decide_eq_true_eq] at hg
  exact hg
theorem small60_of {x : Int} (h : -1000000000 ≤ x) (h' : x ≤ 1000000000) : small60 x = true := decide_eq_true ⟨by omega, by omega⟩
theorem patchInv_l0 : ∀ (s t : List S28) (sh e : Int), smallB s = true → goodFrom e s = true → -1 ≤ e → -1000 * (13 - (s.length : Int)) ≤ sh → sh ≤ 1000 * (13 - (s.length : Int)) → t.length + s.length ≤ 12 → patch_Invert.l0 s t sh = some (invFrom s t sh)
  | [], t, sh, e, _, _, _, _, _, _ => rfl
  | h :: s, t, sh, e, hs, hg, he, h1, h2, h3 => by
    obtain ⟨f1, f2, f3⟩ := smallB_cons hs
    obtain ⟨g1, g2, _, g4⟩ := goodFrom_cons hg
    have l1 := fewB_len f1
    have l2 := fewB_len f2
    simp only [List.length_cons] at h1 h2 h3
    rw [patch_Invert.l0, invFrom, if_pos ⟨small60_of (by omega) (by omega), small60_of (by omega) (by omega)⟩]
    by_cases c : h.f0 + sh > 1048576
    · rw [if_pos c, if_pos c]
    · rw [if_neg c, if_neg c, if_pos (by omega), more_few (by simp) f2, more_few (by simp) f1, bs, bs, List.nil_append, List.nil_append]
      exact patchInv_l0 s _ _ (h.f0 + h.f1.length) f3 g4 (by omega) (by omega) (by omega) (by simp; omega)
theorem patchInv_eq (s : List S28) (hs : smallB s = true) (k : Nat) (hk : 80 ≤ k) : patch_Invert.f k s = some (pInv s) := by
  unfold patch_Invert.f pInv
  rw [editGood_eq s hs k hk, bs]
  have hl := smallB_len hs
  by_cases c : goodFrom (-1) s = true
  · rw [if_pos c, if_pos c]
    exact patchInv_l0 s [] 0 (-1) hs c (by omega) (by omega) (by omega) (by simp; omega)
  · rw [if_neg c, if_neg c]
theorem invFrom_map : ∀ (s t : List S28) (sh : Int), (invFrom s t sh).2 = 0 → invFrom s t sh = (t ++ invMap s sh, 0)
  | [], t, _, _ => by simp [invFrom, invMap]
  | h :: s, t, sh, h0 => by
    rw [invFrom] at h0 ⊢
    by_cases c : h.f0 + sh > 1048576
    · rw [if_pos c] at h0; cases h0
    · rw [if_neg c] at h0 ⊢
      rw [invFrom_map s _ _ h0, invMap, List.append_assoc]; rfl
theorem invFrom_some : ∀ (s t : List S28) (sh : Int), (∀ x ∈ invMap s sh, x.f0 ≤ 1048576) → invFrom s t sh = (t ++ invMap s sh, 0)
  | [], t, _, _ => by simp [invFrom, invMap]
  | h :: s, t, sh, h0 => by
    have h1 := h0 ⟨h.f0 + sh, h.f2, h.f1⟩ (by simp [invMap])
    rw [invFrom, if_neg (by simp only at h1; omega), invFrom_some s _ _ (fun x hx => h0 x (by simp [invMap, hx])), invMap, List.append_assoc]; rfl
theorem invMap_le : ∀ (s t : List S28) (sh : Int), (invFrom s t sh).2 = 0 → ∀ x ∈ invMap s sh, x.f0 ≤ 1048576
  | [], _, _, _ => by simp [invMap]
  | h :: s, t, sh, h0 => by
    rw [invFrom] at h0
    by_cases c : h.f0 + sh > 1048576
    · rw [if_pos c] at h0; cases h0
    · rw [if_neg c] at h0
      intro x hx
      simp only [invMap, List.mem_cons] at hx
      rcases hx with rfl | hx
      · show h.f0 + sh ≤ 1048576
        omega
      · exact invMap_le s _ _ h0 x hx
theorem invMap_good : ∀ (s : List S28) (sh e : Int), goodFrom e s = true → (∀ x ∈ invMap s sh, x.f0 ≤ 1048576) → goodFrom (e + sh) (invMap s sh) = true
  | [], _, _, _, _ => rfl
  | h :: s, sh, e, hg, hx => by
    obtain ⟨g1, g2, g3, g4⟩ := goodFrom_cons hg
    have h1 := hx ⟨h.f0 + sh, h.f2, h.f1⟩ (by simp [invMap])
    have h2 := invMap_good s (sh + ((h.f2.length : Int) - (h.f1.length : Int))) _ g4 (fun x hm => hx x (by simp [invMap, hm]))
    simp only at h1
    simp only [invMap, goodFrom, Bool.and_eq_true, decide_eq_true_eq]
    refine ⟨by omega, h1, ?_, ?_⟩
    · unfold hGood at g3 ⊢
      simp only [Bool.and_eq_true, decide_eq_true_eq] at g3 ⊢
      exact ⟨by omega, g3.2.2, g3.2.1⟩
    · rw [show h.f0 + sh + (h.f2.length : Int) = h.f0 + (h.f1.length : Int) + (sh + ((h.f2.length : Int) - (h.f1.length : Int))) by omega]
      exact h2
theorem invMap_back : ∀ (s : List S28) (sh : Int), invMap (invMap s sh) (-sh) = s
  | [], _ => rfl
  | h :: s, sh => by
    have h2 := invMap_back s (sh + ((h.f2.length : Int) - (h.f1.length : Int)))
    simp only [invMap]
    rw [show -sh + ((h.f1.length : Int) - (h.f2.length : Int)) = -(sh + ((h.f2.length : Int) - (h.f1.length : Int))) by omega, h2, show h.f0 + sh + -sh = h.f0 by omega]
theorem invMap_length : ∀ (s : List S28) (sh : Int), (invMap s sh).length = s.length
  | [], _ => rfl
  | h :: s, sh => by simp [invMap, invMap_length s]
theorem invMap_few : ∀ (s : List S28) (sh : Int), (∀ x ∈ s, fewB x.f1 = true ∧ fewB x.f2 = true) → ∀ x ∈ invMap s sh, fewB x.f1 = true ∧ fewB x.f2 = true
  | [], _, _ => by simp [invMap]
  | h :: s, sh, hx => by
    intro x hm
    simp only [invMap, List.mem_cons] at hm
    rcases hm with rfl | hm
    · exact ⟨(hx h (by simp)).2, (hx h (by simp)).1⟩
    · exact invMap_few s _ (fun y hy => hx y (by simp [hy])) x hm
theorem invMap_small {s : List S28} (hs : smallB s = true) (sh : Int) : smallB (invMap s sh) = true := by
  unfold smallB
  rw [Bool.and_eq_true]
  refine ⟨decide_eq_true (by rw [invMap_length]; exact smallB_len hs), List.all_eq_true.2 fun x hx => ?_⟩
  rw [Bool.and_eq_true]
  exact invMap_few s sh (smallB_at hs) x hx
/-- What is turned round twice is as it was. -/
theorem pInv_back {s : List S28} (hs : smallB s = true) (h0 : (pInv s).2 = 0) : pInv s = (invMap s 0, 0) ∧ smallB (invMap s 0) = true ∧ goodFrom (-1) s = true ∧ pInv (invMap s 0) = (s, 0) := by
  unfold pInv at h0
  by_cases c : goodFrom (-1) s = true
  · rw [if_pos c] at h0
    have h1 := invFrom_map s [] 0 h0
    have h2 := invMap_le s [] 0 h0
    have h3 := invMap_good s 0 (-1) c h2
    rw [show (-1 : Int) + 0 = -1 by omega] at h3
    have h4 := invMap_back s 0
    rw [show (-0 : Int) = 0 by omega] at h4
    refine ⟨?_, invMap_small hs 0, c, ?_⟩
    · unfold pInv; rw [if_pos c, h1]; rfl
    · unfold pInv
      rw [if_pos h3, invFrom_some _ _ _ ?_, h4]; rfl
      rw [h4]
      intro x hx
      clear h1 h2 h3 h4 h0 hs
      suffices ∀ (s : List S28) (e : Int), goodFrom e s = true → ∀ x ∈ s, x.f0 ≤ 1048576 from this s _ c x hx
      intro s
      induction s with
      | nil => intro e _ x hx; simp at hx
      | cons h s ih =>
        intro e hg x hx
        obtain ⟨_, g2, _, g4⟩ := goodFrom_cons hg
        simp only [List.mem_cons] at hx
        rcases hx with rfl | hx
        · exact g2
        · exact ih _ g4 x hx
  · rw [if_neg c] at h0; cases h0

theorem tokEqs_refl : ∀ l : List (List Int), tokEqs l l = true
  | [] => rfl
  | x :: l => by rw [tokEqs, tokEqs_refl l]; simp
theorem tokEqs_symm : ∀ {l m : List (List Int)}, tokEqs l m = true → tokEqs m l = true
  | [], [], _ => rfl
  | x :: l, [], h => by cases h
  | [], y :: m, h => by cases h
  | x :: l, y :: m, h => by
    rw [tokEqs, Bool.and_eq_true, beq_iff_eq] at h ⊢
    exact ⟨h.1.symm, tokEqs_symm h.2⟩
theorem tokEqs_length : ∀ {l m : List (List Int)}, tokEqs l m = true → l.length = m.length
  | [], [], _ => rfl
  | x :: l, [], h => by cases h
  | [], y :: m, h => by cases h
  | x :: l, y :: m, h => by
    rw [tokEqs, Bool.and_eq_true] at h
    simp [tokEqs_length h.2]
theorem tokEqs_append : ∀ {l m l' m' : List (List Int)}, tokEqs l m = true → tokEqs l' m' = true → tokEqs (l ++ l') (m ++ m') = true
  | [], [], _, _, _, h' => h'
  | x :: l, [], _, _, h, _ => by cases h
  | [], y :: m, _, _, h, _ => by cases h
  | x :: l, y :: m, _, _, h, h' => by
    rw [tokEqs, Bool.and_eq_true] at h
    rw [List.cons_append, List.cons_append, tokEqs, Bool.and_eq_true]
    exact ⟨h.1, tokEqs_append h.2 h'⟩
theorem tokEqs_getD : ∀ {l m : List (List Int)} (p : Nat), tokEqs l m = true → (strOfNums (l.getD p [])).toList = (strOfNums (m.getD p [])).toList
  | [], [], _, _ => rfl
  | x :: l, [], _, h => by cases h
  | [], y :: m, _, h => by cases h
  | x :: l, y :: m, 0, h => by
    rw [tokEqs, Bool.and_eq_true, beq_iff_eq] at h
    simpa using h.1
  | x :: l, y :: m, p + 1, h => by
    rw [tokEqs, Bool.and_eq_true] at h
    have := tokEqs_getD p h.2
    simpa using this
theorem sameToks_l0 (x y : List (List Int)) (h : tokEqs x y = true) (hx : x.length ≤ 1000000) : ∀ (d k p : Nat), p + d = x.length → d < k → tattingref1_SameTokens.l0 k x y p = some true := by
  have hl := tokEqs_length h
  intro d
  induction d with
  | zero =>
    intro k p hp hk
    obtain ⟨k, rfl⟩ : ∃ m, k = m + 1 := ⟨k - 1, by omega⟩
    rw [tattingref1_SameTokens.l0, if_neg (by omega)]
  | succ d ih =>
    intro k p hp hk
    obtain ⟨k, rfl⟩ : ∃ m, k = m + 1 := ⟨k - 1, by omega⟩
    have h4 := ih k (p + 1) (by omega) (by omega)
    simp only [Int.natCast_add, Int.cast_ofNat_Int] at h4
    rw [tattingref1_SameTokens.l0, if_pos (by omega), if_pos (by omega), if_pos (by omega), rd_tok, rd_tok, if_pos (tokEqs_getD p h), wr (by omega) (by omega), h4]
theorem sameToks_eqs {x y : List (List Int)} (h : tokEqs x y = true) (hx : x.length ≤ 1000000) (k : Nat) (hk : x.length < k) : tattingref1_SameTokens.f k x y = some true := by
  unfold tattingref1_SameTokens.f
  rw [if_pos (by rw [tokEqs_length h])]
  exact sameToks_l0 x y h hx x.length k 0 (by omega) hk
/-- What a script makes of a text from a place on; does it fit? -/
def appOut : List S28 → List (List Int) → Nat → List (List Int)
  | [], a, i => a.drop i
  | h :: s, a, i => (a.take h.f0.toNat).drop i ++ (h.f2 ++ appOut s a (h.f0.toNat + h.f1.length))
def fits : List S28 → List (List Int) → Bool
  | [], _ => true
  | h :: s, a => decide (h.f0.toNat + h.f1.length ≤ a.length) && (tokEqs ((a.drop h.f0.toNat).take h.f1.length) h.f1 && fits s a)
def pApp (s : List S28) (a : List (List Int)) : List (List Int) × Int := if goodFrom (-1) s = true then (if fits s a = true then (appOut s a 0, 0) else ([], 5)) else ([], 1)
def short (a : List (List Int)) : Prop := ∀ t ∈ a, t.length ≤ 30
theorem short_cut {a : List (List Int)} (h : short a) (n i : Nat) : short ((a.take n).drop i) := fun t ht => h t (List.mem_of_mem_take (List.mem_of_mem_drop ht))
theorem short_drop {a : List (List Int)} (h : short a) (i : Nat) : short (a.drop i) := fun t ht => h t (List.mem_of_mem_drop ht)
theorem more_short {l t : List (List Int)} (hl : l.length + t.length < 100000000) (ht : short t) : patch_more.f l t = some (l ++ t) := by
  unfold patch_more.f
  rw [if_pos (by omega), if_pos (show tokOk t = true from List.all_eq_true.2 fun x hx => decide_eq_true (by have := ht x hx; omega))]
theorem cut_len (a : List (List Int)) (n i : Nat) : ((a.take n).drop i).length ≤ a.length := by rw [List.length_drop, List.length_take]; omega
theorem patchApp_l0 (a : List (List Int)) (ha : a.length ≤ 1000) (hs0 : short a) : ∀ (s : List S28) (i : Nat) (b : List (List Int)) (e : Int), smallB s = true → goodFrom e s = true → -1 ≤ e → (i : Int) ≤ e + 1 → i ≤ a.length → b.length + 1100 * s.length ≤ 100000 →
    patch_Apply.l0 s a i b = some (if fits s a = true then (b ++ appOut s a i, 0) else ([], 5))
  | [], i, b, e, _, _, _, _, hi, hb => by
    have hl := short_drop hs0 i
    rw [patch_Apply.l0, if_pos hi, more_short (by rw [List.length_drop]; simp at hb; omega) hl, bs, fits, if_pos rfl, appOut]
  | h :: s, i, b, e, hs, hg, he, hie, hi, hb => by
    obtain ⟨f1, f2, f3⟩ := smallB_cons hs
    obtain ⟨g1, g2, _, g4⟩ := goodFrom_cons hg
    have l1 := fewB_len f1
    have l2 := fewB_len f2
    simp only [List.length_cons] at hb
    obtain ⟨m, hm⟩ : ∃ m : Nat, h.f0 = (m : Int) := ⟨h.f0.toNat, by omega⟩
    have hst : patch_stands.f a h.f1 h.f0 = some (decide (h.f0.toNat + h.f1.length ≤ a.length) && tokEqs ((a.drop h.f0.toNat).take h.f1.length) h.f1) := by
      unfold patch_stands.f
      rw [hm, Int.toNat_natCast, if_pos (by omega)]
      by_cases c1 : (m : Int) ≤ (a.length : Int)
      · rw [if_pos c1]
        by_cases c2 : (h.f1.length : Int) ≤ (a.length : Int) - (m : Int)
        · rw [if_pos c2, decide_eq_true (by omega), Bool.true_and, List.drop_take, Nat.add_sub_cancel_left]
        · rw [if_neg c2, decide_eq_false (by omega), Bool.false_and]
      · rw [if_neg c1, decide_eq_false (by omega), Bool.false_and]
    rw [patch_Apply.l0, hst, bs, fits]
    by_cases c1 : h.f0.toNat + h.f1.length ≤ a.length
    · rw [decide_eq_true c1, Bool.true_and, Bool.true_and]
      cases c2 : tokEqs ((a.drop h.f0.toNat).take h.f1.length) h.f1
      · rw [if_neg (by decide), Bool.false_and, if_neg (by decide)]
      · have h3 := cut_len a h.f0.toNat i
        have hf2 : short h.f2 := fewB_tok f2
        rw [if_pos rfl, Bool.true_and, if_pos (by omega), more_short (by omega) (short_cut hs0 _ _), bs, more_short (by rw [List.length_append]; omega) hf2, bs,
          patchApp_l0 a ha hs0 s _ _ (h.f0 + h.f1.length) f3 g4 (by omega) (by omega) c1 (by simp only [List.length_append]; omega), appOut, List.append_assoc, List.append_assoc]
    · rw [decide_eq_false c1, Bool.false_and, Bool.false_and, if_neg (by decide), if_neg (by decide)]
theorem patchApp_eq (s : List S28) (a : List (List Int)) (hs : smallB s = true) (ha : a.length ≤ 1000) (hs0 : short a) (k : Nat) (hk : 80 ≤ k) : patch_Apply.f k s a = some (pApp s a) := by
  unfold patch_Apply.f pApp
  rw [editGood_eq s hs k hk, bs]
  have hl := smallB_len hs
  by_cases c : goodFrom (-1) s = true
  · rw [if_pos c, if_pos c, patchApp_l0 a ha hs0 s 0 [] (-1) hs c (by omega) (by omega) (by omega) (by simp; omega)]; rfl
  · rw [if_neg c, if_neg c]
theorem appOut_len (a : List (List Int)) : ∀ (s : List S28) (i : Nat), smallB s = true → (appOut s a i).length ≤ (s.length + 1) * (a.length + 30)
  | [], i, _ => by rw [appOut, List.length_drop]; simp; omega
  | h :: s, i, hs => by
    obtain ⟨f1, f2, f3⟩ := smallB_cons hs
    have l2 := fewB_len f2
    have h3 := cut_len a h.f0.toNat i
    have h4 := appOut_len a s (h.f0.toNat + h.f1.length) f3
    rw [appOut, List.length_append, List.length_append, List.length_cons, Nat.succ_mul]
    omega
theorem appOut_short (a : List (List Int)) (ha : short a) : ∀ (s : List S28) (i : Nat), smallB s = true → short (appOut s a i)
  | [], i, _ => short_drop ha i
  | h :: s, i, hs => by
    obtain ⟨f1, f2, f3⟩ := smallB_cons hs
    intro t ht
    rw [appOut, List.mem_append, List.mem_append] at ht
    rcases ht with ht | ht | ht
    · exact short_cut ha _ _ t ht
    · exact fewB_tok f2 t ht
    · exact appOut_short a ha s _ f3 t ht
theorem pApp_len {s : List S28} {a : List (List Int)} (hs : smallB s = true) (ha : a.length ≤ 30) : (pApp s a).1.length ≤ 780 := by
  unfold pApp
  split
  · split
    · have h1 := appOut_len a s 0 hs
      have h2 := smallB_len hs
      have h3 : (s.length + 1) * (a.length + 30) ≤ 13 * 60 := Nat.mul_le_mul (by omega) (by omega)
      exact Nat.le_trans h1 h3
    · simp
  · simp
theorem pApp_short {s : List S28} {a : List (List Int)} (hs : smallB s = true) (ha : short a) : short (pApp s a).1 := by
  unfold pApp
  split
  · split
    · exact appOut_short a ha s 0 hs
    · intro t ht; simp at ht
  · intro t ht; simp at ht

theorem appFits_back (a B : List (List Int)) : ∀ (s : List S28) (i i' : Nat) (sh e : Int), goodFrom e s = true → -1 ≤ e → (i : Int) ≤ e + 1 → i ≤ a.length → fits s a = true → (i' : Int) = i + sh → i' ≤ B.length → B.drop i' = appOut s a i →
    fits (invMap s sh) B = true ∧ tokEqs (appOut (invMap s sh) B i') (a.drop i) = true
  | [], i, i', sh, e, _, _, _, _, _, _, _, hB => ⟨rfl, by rw [invMap, appOut, hB, appOut]; exact tokEqs_refl _⟩
  | h :: s, i, i', sh, e, hg, he, hie, hi, hf, hsh, hib, hB => by
    obtain ⟨g1, g2, _, g4⟩ := goodFrom_cons hg
    simp only [fits, Bool.and_eq_true, decide_eq_true_eq] at hf
    obtain ⟨f1, f2, f3⟩ := hf
    obtain ⟨m, hm⟩ : ∃ m : Nat, h.f0 = (m : Int) := ⟨h.f0.toNat, by omega⟩
    rw [hm] at g1 g2 g4
    rw [hm, Int.toNat_natCast] at f1 f2
    rw [appOut, hm, Int.toNat_natCast] at hB
    obtain ⟨m', hm'⟩ : ∃ m' : Nat, (m : Int) + sh = (m' : Int) := ⟨((m : Int) + sh).toNat, by omega⟩
    have hseg : ((a.take m).drop i).length = m - i := by rw [List.length_drop, List.length_take]; omega
    have hBl : B.length - i' = (m - i) + (h.f2.length + (appOut s a (m + h.f1.length)).length) := by
      have := congrArg List.length hB
      rw [List.length_drop, List.length_append, List.length_append, hseg] at this
      exact this
    have hd1 : B.drop m' = h.f2 ++ appOut s a (m + h.f1.length) := by
      have : B.drop m' = (B.drop i').drop (m - i) := by rw [List.drop_drop]; congr 1; omega
      rw [this, hB, List.drop_append, hseg, Nat.sub_self, List.drop_eq_nil_of_le (by omega)]; rfl
    have hd2 : B.drop (m' + h.f2.length) = appOut s a (m + h.f1.length) := by
      rw [← List.drop_drop, hd1, List.drop_append, Nat.sub_self, List.drop_length]; rfl
    have hd3 : (B.take m').drop i' = (a.take m).drop i := by
      rw [List.drop_take, hB, List.take_append, hseg, show m' - i' = m - i by omega, Nat.sub_self, List.take_of_length_le (by omega)]; simp
    obtain ⟨h1, h2⟩ := appFits_back a B s (m + h.f1.length) (m' + h.f2.length) (sh + ((h.f2.length : Int) - (h.f1.length : Int))) _ g4 (by omega) (by omega) f1 f3 (by omega) (by omega) hd2
    refine ⟨?_, ?_⟩
    · simp only [invMap, fits, Bool.and_eq_true, decide_eq_true_eq, hm, hm', Int.toNat_natCast]
      refine ⟨by omega, ?_, h1⟩
      rw [hd1, List.take_left']
      exact tokEqs_refl _
      rfl
    · simp only [invMap, appOut, hm, hm', Int.toNat_natCast]
      have e1 : a.drop i = (a.take m).drop i ++ ((a.drop m).take h.f1.length ++ a.drop (m + h.f1.length)) := by
        have e2 : a.drop m = (a.drop m).take h.f1.length ++ a.drop (m + h.f1.length) := by
          rw [← List.drop_drop]; exact (List.take_append_drop _ _).symm
        rw [← e2, List.drop_take]
        have : a.drop m = (a.drop i).drop (m - i) := by rw [List.drop_drop]; congr 1; omega
        rw [this]; exact (List.take_append_drop _ _).symm
      rw [e1, hd3]
      exact tokEqs_append (tokEqs_refl _) (tokEqs_append (tokEqs_symm f2) h2)
/-- Of a script that fits, no place is beyond the text. -/
theorem fits_le (a : List (List Int)) : ∀ (s : List S28) (sh : Int) (n : Nat), smallB s = true → fits s a = true → (∀ x ∈ s, 0 ≤ x.f0) → (sh ≤ 30 * (n : Int)) → ∀ x ∈ invMap s sh, x.f0 ≤ a.length + 30 * ((n : Int) + s.length)
  | [], _, _, _, _, _, _ => by simp [invMap]
  | h :: s, sh, n, hs, hf, h0, hn => by
    obtain ⟨f1, f2, f3⟩ := smallB_cons hs
    have l2 := fewB_len f2
    simp only [fits, Bool.and_eq_true, decide_eq_true_eq] at hf
    obtain ⟨p1, p2, p3⟩ := hf
    have hh := h0 h (by simp)
    intro x hx
    simp only [invMap, List.mem_cons] at hx
    rcases hx with rfl | hx
    · show h.f0 + sh ≤ _
      simp only [List.length_cons]
      omega
    · have := fits_le a s _ (n + 1) f3 p3 (fun y hy => h0 y (by simp [hy])) (by omega) x hx
      simp only [List.length_cons]
      omega
theorem good_nonneg : ∀ (s : List S28) (e : Int), -1 ≤ e → goodFrom e s = true → ∀ x ∈ s, 0 ≤ x.f0
  | [], _, _, _ => by simp
  | h :: s, e, he, hg => by
    obtain ⟨g1, _, _, g4⟩ := goodFrom_cons hg
    intro x hx
    simp only [List.mem_cons] at hx
    rcases hx with rfl | hx
    · omega
    · exact good_nonneg s _ (by omega) g4 x hx
/-- What was done is undone by the script turned round. -/
theorem pApp_back {s : List S28} {a : List (List Int)} (hs : smallB s = true) (ha : a.length ≤ 1000) (h0 : (pApp s a).2 = 0) :
    pInv s = (invMap s 0, 0) ∧ smallB (invMap s 0) = true ∧ (pApp (invMap s 0) (pApp s a).1).2 = 0 ∧ tokEqs (pApp (invMap s 0) (pApp s a).1).1 a = true := by
  have hl := smallB_len hs
  have e0 : pApp s a = if goodFrom (-1) s = true then (if fits s a = true then (appOut s a 0, 0) else ([], 5)) else ([], 1) := rfl
  by_cases c : goodFrom (-1) s = true
  · rw [if_pos c] at e0
    by_cases c2 : fits s a = true
    · rw [if_pos c2] at e0
      have h1 := fits_le a s 0 0 hs c2 (good_nonneg s _ (by omega) c) (by omega)
      have h2 : ∀ x ∈ invMap s 0, x.f0 ≤ 1048576 := fun x hx => by have := h1 x hx; omega
      have h3 := invMap_good s 0 (-1) c h2
      rw [show (-1 : Int) + 0 = -1 by omega] at h3
      obtain ⟨h4, h5⟩ := appFits_back a (appOut s a 0) s 0 0 0 (-1) c (by omega) (by omega) (by omega) c2 (by omega) (by omega) rfl
      refine ⟨?_, invMap_small hs 0, ?_, ?_⟩
      · unfold pInv; rw [if_pos c, invFrom_some s [] 0 h2]; rfl
      · rw [e0]; unfold pApp; rw [if_pos h3, if_pos h4]
      · rw [e0]; unfold pApp; rw [if_pos h3, if_pos h4]; exact h5
    · rw [e0, if_neg c2] at h0; cases h0
  · rw [e0, if_neg c] at h0; cases h0
theorem pApp_none {s : List S28} {a : List (List Int)} (h0 : (pApp s a).2 ≠ 0) : (pApp s a).1 = [] := by
  unfold pApp at h0 ⊢
  by_cases c : goodFrom (-1) s = true
  · rw [if_pos c] at h0 ⊢
    by_cases c2 : fits s a = true
    · rw [if_pos c2] at h0; exact absurd rfl h0
    · rw [if_neg c2]
  · rw [if_neg c]

theorem awake_ok : tattinglaw25_awake.f 1002 = some true := by decide +kernel
theorem law_PatchBack (s : List S28) (a : List (List Int)) : ∃ k, tattinglaw25_PatchBack.f k s a = some true := by
  refine ⟨1002, ?_⟩
  unfold tattinglaw25_PatchBack.f
  rw [awake_ok, bs, if_pos rfl, small_eq s _ (by omega), bs]
  by_cases hs : smallB s = true
  · rw [if_pos hs, few_eq a _ (by omega), bs]
    by_cases ha : fewB a = true
    · have hl := fewB_len ha
      have hsh : short a := fewB_tok ha
      have hpl := pApp_len hs hl
      rw [ha, tattinglaw25_PatchBack.j0, if_neg (by decide), patchApp_eq s a hs (by omega) hsh _ (by omega), bs]
      by_cases h0 : (pApp s a).2 = 0
      · obtain ⟨h1, h2, h3, h4⟩ := pApp_back hs (by omega) h0
        have hl4 := tokEqs_length h4
        rw [if_pos h0, patchInv_eq s hs _ (by omega), bs, h1, patchApp_eq _ _ h2 (by omega) (pApp_short hs hsh) _ (by omega), bs, if_pos rfl, if_pos h3, sameToks_eqs h4 (by omega) _ (by omega)]; rfl
      · rw [if_neg h0, pApp_none h0]; rfl
    · rw [Bool.eq_false_iff.2 ha, tattinglaw25_PatchBack.j0, if_pos (by decide)]
  · rw [if_neg hs, tattinglaw25_PatchBack.j0, if_pos rfl]

end Go.Proofs.Ytlodaoijokfblaa.Pure
