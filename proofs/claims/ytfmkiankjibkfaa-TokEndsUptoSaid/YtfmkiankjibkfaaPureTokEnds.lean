/- Of every list of tokens (not too long in the whole) each end is that of what is joined up to there: over lists alone. -/
import Derived.Test.YtfmkiankjibkfaaPTokEndsx2
namespace Go.Proofs.Ytfmkiankjibkfaa.Pure
open Go.RowKit Go.Proofs.YtfmkiankjibkfaaW.PrintWords Go.Proofs.YtfmkiankjibkfaaW.PrintLast Go.Proofs.YtfmkiankjibkfaaW.PrintMore Go.Proofs.Ytfmkiankjibkfaa.PTokEnds
set_option linter.unusedVariables false
set_option linter.unusedSimpArgs false

/-! Words for the pure side: whole numbers that do not wrap, reads of lists. -/
theorem wr {x : Int} (h : -9223372036854775808 ≤ x) (h' : x < 9223372036854775808) : wrap64 x = x := by unfold wrap64; omega
theorem rd_nat (xs : List Int) (n : Nat) : rd xs (n : Int) = xs.getD n 0 := rfl
theorem rd_at {xs : List Int} {i : Int} {n : Nat} (h : i = (n : Int)) : rd xs i = xs.getD n 0 := by subst h; rfl
theorem drop_getD {xs : List Int} {i : Nat} (h : i < xs.length) : xs.drop i = xs.getD i 0 :: xs.drop (i + 1) := by
  rw [List.drop_eq_getElem_cons h]; simp [List.getD_eq_getElem?_getD, h]
theorem take_getD {xs : List Int} {i : Nat} (h : i < xs.length) : xs.take (i + 1) = xs.take i ++ [xs.getD i 0] := by
  rw [List.take_succ_eq_append_getElem h]; simp [List.getD_eq_getElem?_getD, h]

theorem lz_bind {α β : Type} {a a' : Option α} {f : α → Option β} (h : a = a') : a.bind f = a'.bind f := by rw [h]
theorem lz_ite {α : Type} {c c' : Prop} [s : Decidable c] [s' : Decidable c'] {t e : α} (h : c = c') : ite c t e = ite c' t e := by
  subst h; rw [Subsingleton.elim s s']
attribute [local congr] lz_bind lz_ite
theorem bs {α β : Type} (a : α) (f : α → Option β) : (some a).bind f = f a := by simp
theorem itt {α : Type} (t e : α) : (if (true = true) then t else e) = t := by simp
theorem ift {α : Type} (t e : α) : (if (false = true) then t else e) = e := by simp
theorem ifT {α : Type} (t e : α) : (if True then t else e) = t := by simp
theorem ifF {α : Type} (t e : α) : (if False then t else e) = e := by simp

/-! Lists told place by place. -/
def seq {α : Type} (n : Nat) (F : Nat → α) : List α := (List.range n).map F
def upd {α : Type} (F : Nat → α) (i : Nat) (v : α) : Nat → α := fun j => if j = i then v else F j
theorem upd_same {α : Type} (F : Nat → α) (i : Nat) (v : α) : upd F i v i = v := by simp [upd]
theorem upd_ne {α : Type} (F : Nat → α) {i j : Nat} (v : α) (h : j ≠ i) : upd F i v j = F j := by simp [upd, h]
theorem seq_length {α : Type} (n : Nat) (F : Nat → α) : (seq n F).length = n := by simp [seq]
theorem seq_getD {α : Type} {n : Nat} (F : Nat → α) {i : Nat} (h : i < n) (d : α) : (seq n F).getD i d = F i := by simp [seq, h, List.getD_eq_getElem?_getD]
theorem seq_getElem {α : Type} {n : Nat} (F : Nat → α) {i : Nat} (h : i < (seq n F).length) : (seq n F)[i] = F i := by simp [seq]
theorem seq_ext {α : Type} {n : Nat} {F G : Nat → α} (h : ∀ i, i < n → F i = G i) : seq n F = seq n G := by
  unfold seq; exact List.map_congr_left fun i hi => h i (List.mem_range.1 hi)
theorem seq_set {α : Type} {n : Nat} (F : Nat → α) (i : Nat) (v : α) : (seq n F).set i v = seq n (upd F i v) := by
  apply List.ext_getElem
  · simp [seq_length]
  · intro j h1 h2
    rw [List.getElem_set, seq_getElem, seq_getElem]
    unfold upd
    by_cases h : i = j
    · rw [if_pos h, if_pos h.symm]
    · rw [if_neg h, if_neg (fun e => h e.symm)]
theorem seq_const {α : Type} (n : Nat) (v : α) : List.replicate n v = seq n (fun _ => v) := by
  apply List.ext_getElem
  · simp [seq_length]
  · intro j h1 h2; simp [seq]
theorem seq_snoc {α : Type} (n : Nat) (F : Nat → α) : seq (n + 1) F = seq n F ++ [F n] := by simp [seq, List.range_succ]
theorem seq_of {α : Type} (xs : List α) (d : α) : xs = seq xs.length (fun i => xs.getD i d) := by
  apply List.ext_getElem
  · simp [seq_length]
  · intro j h1 h2; rw [seq_getElem]; simp [List.getD_eq_getElem?_getD, h1]
theorem seq_inj {α : Type} {n : Nat} {F G : Nat → α} (h : seq n F = seq n G) : ∀ i, i < n → F i = G i := by
  intro i hi
  have := congrArg (fun l => l[i]?) h
  simpa [seq, hi] using this
theorem rd_seq {n : Nat} (F : Nat → Int) {i : Int} {p : Nat} (h : p < n) (e : i = (p : Int)) : rd (seq n F) i = F p := by
  subst e; rw [rd_nat, seq_getD F h]

theorem tok_Join_l0 (l : List (List Int)) (hl : l.length ≤ 100000000) (hs : l.flatten.length ≤ 100000000) : ∀ (d k p : Nat), p + d = l.length → d < k → tok_Join.l0 k (l.take p).flatten l l.length p = some l.flatten := by
  intro d
  induction d with
  | zero =>
    intro k p hp hk
    obtain ⟨k, rfl⟩ : ∃ m, k = m + 1 := ⟨k - 1, by omega⟩
    rw [tok_Join.l0, if_neg (by omega), List.take_of_length_le (by omega)]
  | succ d ih =>
    intro k p hp hk
    obtain ⟨k, rfl⟩ : ∃ m, k = m + 1 := ⟨k - 1, by omega⟩
    have e1 : rd_L1 l (p : Int) = l.getD p [] := rfl
    have e2 : l.take (p + 1) = l.take p ++ [l.getD p []] := by
      rw [List.take_succ_eq_append_getElem (by omega)]; simp [List.getD_eq_getElem?_getD, show p < l.length by omega]
    have e3 : (l.take (p + 1)).flatten = (l.take p).flatten ++ l.getD p [] := by rw [e2]; simp
    have e4 : l.flatten = (l.take (p + 1)).flatten ++ (l.drop (p + 1)).flatten := by rw [← List.flatten_append, List.take_append_drop]
    have h4 := ih k (p + 1) (by omega) (by omega)
    have hlen : (l.take p).flatten.length + (l.getD p []).length ≤ 100000000 := by
      have := congrArg List.length e4
      rw [e3] at this
      simp only [List.length_append] at this
      omega
    rw [e3] at h4
    simp only [Int.natCast_add, Int.cast_ofNat_Int] at h4
    rw [tok_Join.l0, if_pos (by omega), if_pos (by omega), if_pos (by omega), e1, if_pos (by omega), wr (by omega) (by omega), h4]
theorem tok_Join_eq (l : List (List Int)) (hl : l.length ≤ 100000000) (hs : l.flatten.length ≤ 100000000) (k : Nat) (hk : l.length < k) : tok_Join.f k l = some l.flatten := by
  unfold tok_Join.f
  exact tok_Join_l0 l hl hs l.length k 0 (by omega) hk

theorem awake_400 : tattinglaw1_awake.f 400 = some true := by
  unfold tattinglaw1_awake.f
  simp only [Lib.strOfNums_toList]
  decide +kernel
def pre (l : List (List Int)) (i : Nat) : Nat := (l.take i).flatten.length
theorem list_at {l : List (List Int)} {i : Nat} (h : i < l.length) : l.take (i + 1) = l.take i ++ [l.getD i []] := by
  rw [List.take_succ_eq_append_getElem h]; simp [List.getD_eq_getElem?_getD, h]
theorem flat_at {l : List (List Int)} {i : Nat} (h : i < l.length) : (l.take (i + 1)).flatten = (l.take i).flatten ++ l.getD i [] := by
  rw [list_at h, List.flatten_append]; simp
theorem pre_at {l : List (List Int)} {i : Nat} (h : i < l.length) : pre l (i + 1) = pre l i + (l.getD i []).length := by
  unfold pre; rw [flat_at h, List.length_append]
theorem flat_split (l : List (List Int)) (i : Nat) : l.flatten = (l.take i).flatten ++ (l.drop i).flatten := by
  rw [← List.flatten_append, List.take_append_drop]
theorem pre_le (l : List (List Int)) (i : Nat) : pre l i ≤ l.flatten.length := by
  unfold pre; rw [flat_split l i, List.length_append]; omega
theorem cut_at {l : List (List Int)} {i : Nat} (h : i < l.length) : (l.flatten.take (pre l (i + 1))).drop (pre l i) = l.getD i [] := by
  have e1 : l.flatten.take (pre l (i + 1)) = (l.take (i + 1)).flatten := by
    unfold pre
    have := flat_split l (i + 1)
    rw [this]
    exact List.take_left' rfl
  rw [e1, flat_at h]
  exact List.drop_left' rfl
theorem tok_Ends_l0 (l : List (List Int)) (hl : l.length ≤ 100000000) (hs : l.flatten.length ≤ 100000000) : ∀ (d k p : Nat), p + d = l.length → d < k →
    tok_Ends.l0 k (seq p fun j => (pre l (j + 1) : Int)) (pre l p) l l.length p = some (seq l.length fun j => (pre l (j + 1) : Int)) := by
  intro d
  induction d with
  | zero =>
    intro k p hp hk
    obtain ⟨k, rfl⟩ : ∃ m, k = m + 1 := ⟨k - 1, by omega⟩
    rw [tok_Ends.l0, if_neg (by omega)]
    rw [show p = l.length by omega]
  | succ d ih =>
    intro k p hp hk
    obtain ⟨k, rfl⟩ : ∃ m, k = m + 1 := ⟨k - 1, by omega⟩
    have h4 := ih k (p + 1) (by omega) (by omega)
    have e1 : rd_L1 l (p : Int) = l.getD p [] := rfl
    have hp' : p < l.length := by omega
    have e2 := pre_at hp'
    have e3 := pre_le l (p + 1)
    have e4 := pre_le l p
    have e5 : (seq p fun j => (pre l (j + 1) : Int)).length = p := seq_length _ _
    rw [tok_Ends.l0, if_pos (by omega), if_pos (by omega), if_pos (by omega), if_pos (by omega), e1, wr (x := (p : Int) + 1) (by omega) (by omega), wr (x := (pre l p : Int) + _) (by omega) (by omega)]
    rw [seq_snoc] at h4
    have e6 : (pre l p : Int) + ((l.getD p []).length : Int) = (pre l (p + 1) : Int) := by rw [e2]; simp
    rw [e6]
    exact_mod_cast h4
theorem tok_Ends_eq (l : List (List Int)) (hl : l.length ≤ 100000000) (hs : l.flatten.length ≤ 100000000) (k : Nat) (hk : l.length < k) : tok_Ends.f k l = some (seq l.length fun j => (pre l (j + 1) : Int)) := by
  unfold tok_Ends.f
  exact tok_Ends_l0 l hl hs l.length k 0 (by omega) hk
theorem TokEnds_l0 (l : List (List Int)) (hl : l.length ≤ 100000000) (hs : l.flatten.length ≤ 100000000) : ∀ (d k p : Nat), p + d = l.length → d < k →
    tattinglaw1_TokEnds.l0 k l (seq l.length fun j => (pre l (j + 1) : Int)) l.flatten (pre l p) p = some true := by
  have e5 : (seq l.length fun j => (pre l (j + 1) : Int)).length = l.length := seq_length _ _
  intro d
  induction d with
  | zero =>
    intro k p hp hk
    obtain ⟨k, rfl⟩ : ∃ m, k = m + 1 := ⟨k - 1, by omega⟩
    rw [tattinglaw1_TokEnds.l0, if_neg (by omega)]
    have e : pre l p = l.flatten.length := by unfold pre; rw [List.take_of_length_le (by omega)]
    rw [e]; simp
  | succ d ih =>
    intro k p hp hk
    obtain ⟨k, rfl⟩ : ∃ m, k = m + 1 := ⟨k - 1, by omega⟩
    have h4 := ih k (p + 1) (by omega) (by omega)
    have e1 : rd_L1 l (p : Int) = l.getD p [] := rfl
    have hp' : p < l.length := by omega
    have e2 := pre_at hp'
    have e3 := pre_le l (p + 1)
    have e4 := pre_le l p
    have e6 : rd (seq l.length fun j => (pre l (j + 1) : Int)) (p : Int) = (pre l (p + 1) : Int) := rd_seq _ hp' rfl
    have e7 := cut_at hp'
    rw [tattinglaw1_TokEnds.l0, if_pos (by omega), if_pos (by omega), if_pos (by omega), e6, e1, wr (x := (pre l (p + 1) : Int) - pre l p) (by omega) (by omega), if_pos (by omega), if_neg (by omega), if_pos (by omega), if_pos (by omega), if_pos (by omega), Int.toNat_natCast, Int.toNat_natCast, e7, if_pos rfl, wr (x := (p : Int) + 1) (by omega) (by omega)]
    exact_mod_cast h4
def TokEndsPure : Prop := ∀ l : List (List Int), l.length ≤ 100000000 → l.flatten.length ≤ 100000000 → ∃ k, tattinglaw1_TokEnds.f k l = some true
theorem law_TokEnds : TokEndsPure := by
  intro l hl hs
  refine ⟨l.length + 401, ?_⟩
  have haw : tattinglaw1_awake.f (l.length + 401) = some true := at_rounds (tattinglaw1_awake.mono) (by omega) awake_400
  unfold tattinglaw1_TokEnds.f
  rw [haw, bs, if_pos rfl]
  by_cases h : (l.length : Int) > 60
  · rw [if_pos h]
  · rw [if_neg h, tok_Ends_eq l hl hs _ (by omega), bs, seq_length, if_pos rfl, tok_Join_eq l hl hs _ (by omega), bs]
    exact TokEnds_l0 l hl hs l.length _ 0 (by omega) (by omega)

end Go.Proofs.Ytfmkiankjibkfaa.Pure
