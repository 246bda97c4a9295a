/- The tokens of two texts are those of both: the law TokParts holds, with no condition. -/
import Derived.Test.YtfmkiankjibkfaaPTokPartsx2
import Derived.Test.YtfmkiankjibkfaaWSized
namespace Go.Proofs.Ytfmkiankjibkfaa.Pure
open Go.RowKit Go.Proofs.Ytfmkiankjibkfaa.PTokParts Go.Proofs.YtfmkiankjibkfaaW.PrintWords Go.Proofs.YtfmkiankjibkfaaW.PrintLast Go.Proofs.YtfmkiankjibkfaaW.PrintMore
set_option linter.unusedVariables false
set_option linter.unusedSimpArgs false

/-! Words for the pure side: whole numbers that do not wrap, reads of lists. -/
theorem wr {x : Int} (h : -9223372036854775808 ≤ x) (h' : x < 9223372036854775808) : wrap64 x = x := by unfold wrap64; omega
theorem rd_nat (xs : List Int) (n : Nat) : rd xs (n : Int) = xs.getD n 0 := rfl
theorem rd_at {xs : List Int} {i : Int} {n : Nat} (h : i = (n : Int)) : rd xs i = xs.getD n 0 := by subst h; rfl
theorem drop_getD {xs : List Int} {i : Nat} (h : i < xs.length) : xs.drop i = xs.getD i 0 :: xs.drop (i + 1) := by
  rw [List.drop_eq_getElem_cons h]; simp [List.getD_eq_getElem?_getD, h]
theorem take_getD {xs : List Int} {i : Nat} (h : i < xs.length) : xs.take (i + 1) = xs.take i ++ [xs.getD i 0] := by
  rw [List.take_succ_eq_append_getElem h]; simp [List.getD_eq_getElem?_getD, h]

theorem lz_bind {α β : Type} {a a' : Option α} {f : α → Option β} (h : a = a') : a.bind f = a'.bind f := by rw [h]
theorem lz_ite {α : Type} {c c' : Prop} [s : Decidable c] [s' : Decidable c'] {t e : α} (h : c = c') : ite c t e = ite c' t e := by
  subst h; rw [Subsingleton.elim s s']
attribute [local congr] lz_bind lz_ite
theorem bs {α β : Type} (a : α) (f : α → Option β) : (some a).bind f = f a := by simp
theorem itt {α : Type} (t e : α) : (if (true = true) then t else e) = t := by simp
theorem ift {α : Type} (t e : α) : (if (false = true) then t else e) = e := by simp
theorem ifT {α : Type} (t e : α) : (if True then t else e) = t := by simp
theorem ifF {α : Type} (t e : α) : (if False then t else e) = e := by simp

theorem u8_wf {x : Int} (h : (Lit.int .u8 x).wf = true) : 0 ≤ x ∧ x < 256 := by
  have h' := h
  simp only [Lit.wf, Bool.and_eq_true, decide_eq_true_eq] at h'
  have e1 : IntKind.u8.min = 0 := by rfl
  have e2 : IntKind.u8.max = 255 := by rfl
  rw [e1, e2] at h'
  omega
theorem i64_wf {x : Int} (h : (Lit.int .i64 x).wf = true) : -9223372036854775808 ≤ x ∧ x < 9223372036854775808 := by
  have h' := h
  simp only [Lit.wf, Bool.and_eq_true, decide_eq_true_eq] at h'
  have e1 : IntKind.i64.min = -9223372036854775808 := by decide
  have e2 : IntKind.i64.max = 9223372036854775807 := by decide
  rw [e1, e2] at h'
  omega
theorem tmod_nat (x n : Nat) : Int.tmod (x : Int) (n : Int) = ((x % n : Nat) : Int) := by
  rw [Int.tmod_eq_emod_of_nonneg (by omega)]; exact (Int.natCast_emod _ _).symm
/-- A number within a list's places and its end. -/
theorem place (x : Int) (n : Nat) (h : 0 ≤ x ∧ x < 256) (hn : n ≤ 1000000) : ∃ p : Nat, p ≤ n ∧ Int.tmod (wrap64 x) (wrap64 ((n : Int) + 1)) = p := by
  obtain ⟨y, rfl⟩ := Int.eq_ofNat_of_zero_le h.1
  rw [wr (by omega) (by omega), wr (by omega) (by omega)]
  refine ⟨y % (n + 1), by have := Nat.mod_lt y (show 0 < n + 1 by omega); omega, ?_⟩
  have := tmod_nat y (n + 1)
  simpa using this

/-! Lists told place by place. -/
def seq {α : Type} (n : Nat) (F : Nat → α) : List α := (List.range n).map F
def upd {α : Type} (F : Nat → α) (i : Nat) (v : α) : Nat → α := fun j => if j = i then v else F j
theorem upd_same {α : Type} (F : Nat → α) (i : Nat) (v : α) : upd F i v i = v := by simp [upd]
theorem upd_ne {α : Type} (F : Nat → α) {i j : Nat} (v : α) (h : j ≠ i) : upd F i v j = F j := by simp [upd, h]
theorem seq_length {α : Type} (n : Nat) (F : Nat → α) : (seq n F).length = n := by simp [seq]
theorem seq_getD {α : Type} {n : Nat} (F : Nat → α) {i : Nat} (h : i < n) (d : α) : (seq n F).getD i d = F i := by simp [seq, h, List.getD_eq_getElem?_getD]
theorem seq_getElem {α : Type} {n : Nat} (F : Nat → α) {i : Nat} (h : i < (seq n F).length) : (seq n F)[i] = F i := by simp [seq]
theorem seq_ext {α : Type} {n : Nat} {F G : Nat → α} (h : ∀ i, i < n → F i = G i) : seq n F = seq n G := by
  unfold seq; exact List.map_congr_left fun i hi => h i (List.mem_range.1 hi)
theorem seq_set {α : Type} {n : Nat} (F : Nat → α) (i : Nat) (v : α) : (seq n F).set i v = seq n (upd F i v) := by
  apply List.ext_getElem
  · simp [seq_length]
  · intro j h1 h2
    rw [List.getElem_set, seq_getElem, seq_getElem]
    unfold upd
    by_cases h : i = j
    · rw [if_pos h, if_pos h.symm]
    · rw [if_neg h, if_neg (fun e => h e.symm)]
theorem seq_const {α : Type} (n : Nat) (v : α) : List.replicate n v = seq n (fun _ => v) := by
  apply List.ext_getElem
  · simp [seq_length]
  · intro j h1 h2; simp [seq]
theorem seq_snoc {α : Type} (n : Nat) (F : Nat → α) : seq (n + 1) F = seq n F ++ [F n] := by simp [seq, List.range_succ]
theorem seq_of {α : Type} (xs : List α) (d : α) : xs = seq xs.length (fun i => xs.getD i d) := by
  apply List.ext_getElem
  · simp [seq_length]
  · intro j h1 h2; rw [seq_getElem]; simp [List.getD_eq_getElem?_getD, h1]
theorem seq_inj {α : Type} {n : Nat} {F G : Nat → α} (h : seq n F = seq n G) : ∀ i, i < n → F i = G i := by
  intro i hi
  have := congrArg (fun l => l[i]?) h
  simpa [seq, hi] using this
theorem rd_seq {n : Nat} (F : Nat → Int) {i : Int} {p : Nat} (h : p < n) (e : i = (p : Int)) : rd (seq n F) i = F p := by
  subst e; rw [rd_nat, seq_getD F h]

/-- Where the first line ends: behind the first 10, or at the end. -/
def lineEnd : List Int → Nat
  | [] => 0
  | c :: t => if c = 10 then 1 else lineEnd t + 1
def lines : List Int → List (List Int)
  | [] => []
  | c :: t => if c = 10 then [10] :: lines t else match lines t with
    | [] => [[c]]
    | l :: ls => (c :: l) :: ls
def cutsOf (byLine : Bool) (b : List Int) : List (List Int) := if byLine = true then lines b else b.map fun c => [c]
theorem lines_eq : ∀ b : List Int, b ≠ [] → lines b = b.take (lineEnd b) :: lines (b.drop (lineEnd b))
  | [], h => absurd rfl h
  | c :: t, _ => by
    by_cases e : c = 10
    · subst e; simp [lines, lineEnd]
    · cases t with
      | nil => simp [lines, lineEnd, e]
      | cons d t =>
        have ih := lines_eq (d :: t) (by simp)
        have e2 : lineEnd (c :: d :: t) = lineEnd (d :: t) + 1 := by rw [lineEnd, if_neg e]
        rw [lines, if_neg e, ih, e2]
        simp
theorem lineEnd_le : ∀ b : List Int, lineEnd b ≤ b.length
  | [] => Nat.le_refl _
  | c :: t => by
    have := lineEnd_le t
    unfold lineEnd
    split <;> simp <;> omega
theorem lineEnd_pos : ∀ b : List Int, b ≠ [] → 0 < lineEnd b
  | [], h => absurd rfl h
  | c :: t, _ => by unfold lineEnd; split <;> omega
theorem lines_flatten : ∀ b : List Int, (lines b).flatten = b
  | [] => rfl
  | c :: t => by
    have ih := lines_flatten t
    rw [lines]
    split
    · rename_i e; simp [ih, e]
    · revert ih
      cases lines t with
      | nil => intro ih; simp at ih; simp [← ih]
      | cons l ls => intro ih; simp at ih; simp [← ih]
theorem chars_flatten : ∀ b : List Int, (b.map fun c => [c]).flatten = b
  | [] => rfl
  | c :: t => by simp [chars_flatten t]
theorem cutsOf_flatten (m : Bool) (b : List Int) : (cutsOf m b).flatten = b := by
  unfold cutsOf; split
  · exact lines_flatten b
  · exact chars_flatten b
theorem lines_length : ∀ b : List Int, (lines b).length ≤ b.length
  | [] => Nat.le_refl _
  | c :: t => by
    have ih := lines_length t
    rw [lines]
    split
    · simp; omega
    · revert ih
      cases lines t with
      | nil => intro ih; simp
      | cons l ls => intro ih; simp at ih ⊢; omega
/-- What ends with a 10 is cut as it is, and what comes behind as it is. -/
theorem lines_append : ∀ (a b : List Int), lines (a ++ [10] ++ b) = lines (a ++ [10]) ++ lines b
  | [], b => by simp [lines]
  | c :: t, b => by
    have ih := lines_append t b
    have hne : lines (t ++ [10]) ≠ [] := by
      cases t with
      | nil => simp [lines]
      | cons d t =>
        rw [List.cons_append, lines]
        split
        · simp
        · split <;> simp
    simp only [List.cons_append]
    rw [lines, lines]
    by_cases e : c = 10
    · rw [if_pos e, if_pos e, ih]; rfl
    · rw [if_neg e, if_neg e, ih]
      revert hne
      cases lines (t ++ [10]) with
      | nil => intro h; exact absurd rfl h
      | cons l ls => intro _; rfl

def u8s (b : List Int) : Prop := ∀ x ∈ b, 0 ≤ x ∧ x < 256
theorem u8s_drop {b : List Int} (h : u8s b) (n : Nat) : u8s (b.drop n) := fun x hx => h x (List.mem_of_mem_drop hx)
theorem u8s_take {b : List Int} (h : u8s b) (n : Nat) : u8s (b.take n) := fun x hx => h x (List.mem_of_mem_take hx)
theorem ten_iff (c : Int) (h : 0 ≤ c ∧ c < 256) : (UInt8.ofNat c.toNat == (10 : Int).toNat.toUInt8) = decide (c = 10) := by
  obtain ⟨n, rfl⟩ := Int.eq_ofNat_of_zero_le h.1
  rw [Bool.eq_iff_iff, beq_iff_eq, decide_eq_true_eq]
  constructor
  · intro e
    have := congrArg UInt8.toNat e
    have e10 : ((10 : Int).toNat.toUInt8).toNat = 10 := by decide
    rw [e10, UInt8.toNat_ofNat'] at this
    have e2 : ((n : Int)).toNat = n := by omega
    rw [e2] at this
    omega
  · intro e
    have : n = 10 := by omega
    subst this; rfl
theorem indexByte_cases : ∀ b : List Int, u8s b → (Lib.indexByte (Lib.bytesOf b) (10 : Int).toNat.toUInt8 = -1 ∧ lineEnd b = b.length ∧ ∀ q, q < b.length → b.getD q 0 ≠ 10) ∨ (0 ≤ Lib.indexByte (Lib.bytesOf b) (10 : Int).toNat.toUInt8 ∧ Lib.indexByte (Lib.bytesOf b) (10 : Int).toNat.toUInt8 + 1 = lineEnd b)
  | [], _ => .inl ⟨rfl, rfl, fun q hq => by simp at hq⟩
  | c :: t, h => by
    have ih := indexByte_cases t (fun x hx => h x (List.mem_cons_of_mem _ hx))
    have hc := ten_iff c (h c List.mem_cons_self)
    have e : Lib.bytesOf (c :: t) = UInt8.ofNat c.toNat :: Lib.bytesOf t := rfl
    rw [e, Lib.indexByte, hc]
    by_cases c10 : c = 10
    · rw [decide_eq_true c10, if_pos rfl, lineEnd, if_pos c10]
      exact .inr ⟨Int.le_refl _, rfl⟩
    · rw [decide_eq_false c10, if_neg (by decide), lineEnd, if_neg c10]
      rcases ih with ⟨i1, i2, i3⟩ | ⟨i1, i2⟩
      · rw [i1, if_pos (by decide)]
        refine .inl ⟨rfl, by simp [i2], fun q hq => ?_⟩
        cases q with
        | zero => simpa using c10
        | succ q => simpa using i3 q (by simpa using hq)
      · have hne : (Lib.indexByte (Lib.bytesOf t) (10 : Int).toNat.toUInt8 == -1) = false := beq_eq_false_iff_ne.2 (by omega)
        rw [hne, if_neg (by decide)]
        exact .inr ⟨by omega, by rw [i2]; rfl⟩
theorem clone_eq (b : List Int) (h : b.length ≤ 1000000) : bytes_Clone.f b = some b := by
  unfold bytes_Clone.f; rw [if_pos (by omega)]
theorem tok_Cut_lines : ∀ (n k : Nat) (b : List Int) (acc : List (List Int)), b.length = n → u8s b → b.length + acc.length ≤ 1000000 → n < k → tok_Cut.l0 k 1 b acc = some (acc ++ lines b, 0) := by
  intro n
  induction n using Nat.strongRecOn with
  | ind n ih =>
    intro k b acc hn hu hl hk
    obtain ⟨k, rfl⟩ : ∃ m, k = m + 1 := ⟨k - 1, by omega⟩
    by_cases h0 : b = []
    · subst h0
      rw [tok_Cut.l0, if_neg (by simp)]; simp [lines]
    · have hpos : 0 < b.length := List.length_pos_iff.2 h0
      have hle := lineEnd_le b
      have hlp := lineEnd_pos b h0
      have hd : (b.drop (lineEnd b)).length = b.length - lineEnd b := by simp
      have ht : (b.take (lineEnd b)).length ≤ b.length := by simp; omega
      have h4 := ih (b.length - lineEnd b) (by omega) k (b.drop (lineEnd b)) (acc ++ [b.take (lineEnd b)]) hd (u8s_drop hu _) (by simp; omega) (by omega)
      rw [List.append_assoc, List.singleton_append, ← lines_eq b h0] at h4
      rw [tok_Cut.l0, if_pos (by omega), if_pos rfl]
      unfold bytes_IndexByte.f
      rw [bs]
      rcases indexByte_cases b hu with ⟨i1, i2, _⟩ | ⟨i1, i2⟩
      · rw [i2] at h4
        rw [i1, wr (by omega) (by omega), if_pos (by omega), if_pos (by omega), if_pos (by omega), Int.toNat_natCast, clone_eq _ (by simp; omega), bs, if_pos (by omega), h4]
      · have e2 : (lineEnd b : Int).toNat = lineEnd b := by omega
        rw [i2, wr (by omega) (by omega), if_neg (by omega), if_pos (by omega), if_pos (by omega), e2, clone_eq _ (by omega), bs, if_pos (by omega), h4]
theorem tok_Cut_chars : ∀ (b : List Int) (k : Nat) (acc : List (List Int)), b.length + acc.length ≤ 1000000 → b.length < k → tok_Cut.l0 k 0 b acc = some (acc ++ b.map fun c => [c], 0)
  | [], k, acc, _, hk => by
    obtain ⟨k, rfl⟩ : ∃ m, k = m + 1 := ⟨k - 1, by omega⟩
    rw [tok_Cut.l0, if_neg (by simp)]; simp
  | c :: t, k, acc, hl, hk => by
    obtain ⟨k, rfl⟩ : ∃ m, k = m + 1 := ⟨k - 1, by omega⟩
    have hlen : (c :: t).length = t.length + 1 := rfl
    have h4 := tok_Cut_chars t k (acc ++ [[c]]) (by simp; omega) (by omega)
    rw [tok_Cut.l0, if_pos (by omega), if_neg (by decide), if_pos (by omega), clone_eq _ (by simp), bs, if_pos (by omega)]
    simp only [List.take_succ_cons, List.take_zero, List.drop_succ_cons, List.drop_zero]
    rw [h4]; simp
def modeOf (m : Bool) : Int := if m = true then 1 else 0
theorem tok_Cut_eq (m : Bool) (b : List Int) (hu : u8s b) (hb : b.length ≤ 100000) (k : Nat) (hk : b.length < k) : tok_Cut.f k (modeOf m) b = some (cutsOf m b, 0) := by
  unfold tok_Cut.f tok_isMode.f modeOf cutsOf
  cases m with
  | true =>
    rw [if_pos rfl, if_neg (by decide), bs, if_pos (by decide), tok_Cut_lines b.length k b [] rfl hu (by simp; omega) hk, if_pos rfl]; rfl
  | false =>
    show ((if (0 : Int) = 0 then some true else some ((0 : Int) == 1)).bind fun t => if t = true then tok_Cut.l0 k 0 b [] else some ([], 1)) = some (b.map fun c => [c], 0)
    rw [if_pos rfl, bs, if_pos rfl, tok_Cut_chars b k [] (by simp; omega) hk]; rfl
theorem tok_Cut_other (x : Int) (h0 : x ≠ 0) (h1 : x ≠ 1) (b : List Int) (k : Nat) : tok_Cut.f k x b = some ([], 1) := by
  unfold tok_Cut.f tok_isMode.f
  rw [if_neg h0, bs, beq_eq_false_iff_ne.2 h1, if_neg (by decide)]

theorem tattingref1_SameTokens_l0 (x : List (List Int)) (hx : x.length ≤ 1000000) : ∀ (d k p : Nat), p + d = x.length → d < k → tattingref1_SameTokens.l0 k x x p = some true := by
  intro d
  induction d with
  | zero =>
    intro k p hp hk
    obtain ⟨k, rfl⟩ : ∃ m, k = m + 1 := ⟨k - 1, by omega⟩
    rw [tattingref1_SameTokens.l0, if_neg (by omega)]
  | succ d ih =>
    intro k p hp hk
    obtain ⟨k, rfl⟩ : ∃ m, k = m + 1 := ⟨k - 1, by omega⟩
    have h4 := ih k (p + 1) (by omega) (by omega)
    simp only [Int.natCast_add, Int.cast_ofNat_Int] at h4
    rw [tattingref1_SameTokens.l0, if_pos (by omega), if_pos (by omega), if_pos (by omega), if_pos rfl, wr (by omega) (by omega), h4]
theorem tattingref1_SameTokens_same (x : List (List Int)) (hx : x.length ≤ 1000000) (k : Nat) (hk : x.length < k) : tattingref1_SameTokens.f k x x = some true := by
  unfold tattingref1_SameTokens.f
  rw [if_pos rfl]
  exact tattingref1_SameTokens_l0 x hx x.length k 0 (by omega) hk
theorem cutsOf_length (m : Bool) (b : List Int) : (cutsOf m b).length ≤ b.length := by
  unfold cutsOf; split
  · exact lines_length b
  · simp

theorem awake_400 : tattinglaw1_awake.f 400 = some true := by
  unfold tattinglaw1_awake.f
  simp only [Lib.strOfNums_toList]
  decide +kernel
theorem law_TokParts : tattinglaw1_TokParts.Pure := by
  intro m a b _ _ ha _ _ hb
  have ha : u8s a := fun x hx => u8_wf (ha x hx)
  have hb : u8s b := fun x hx => u8_wf (hb x hx)
  refine ⟨402, ?_⟩
  have haw : tattinglaw1_awake.f 402 = some true := tattinglaw1_awake.mono 401 _ (tattinglaw1_awake.mono 400 _ awake_400)
  unfold tattinglaw1_TokParts.f
  rw [haw, bs, itt]
  by_cases h1 : (a.length : Int) > 150
  · rw [if_pos h1, tattinglaw1_TokParts.j0, itt]
  rw [if_neg h1]
  by_cases h2 : (b.length : Int) > 150
  · rw [decide_eq_true h2, tattinglaw1_TokParts.j0, itt]
  have l0 : ([] : List Int).length = 0 := rfl
  have l00 : ([] : List (List Int)).length = 0 := rfl
  have ln : ([] ++ a).length = a.length := rfl
  have u10 : u8s (a ++ [10]) := fun x hx => by
    rcases List.mem_append.1 hx with h | h
    · exact ha x h
    · rw [List.mem_singleton] at h; omega
  have key : ∀ (m : Bool) (f : List Int), u8s f → f.length ≤ 151 → cutsOf m (f ++ b) = cutsOf m f ++ cutsOf m b → tattinglaw1_TokParts.j1 401 b (modeOf m) f = some true := by
    intro m f hf hl hc
    have uab : u8s (f ++ b) := fun x hx => by
      rcases List.mem_append.1 hx with h | h
      · exact hf x h
      · exact hb x h
    have c1 := cutsOf_length m f
    have c2 := cutsOf_length m b
    have lf : ([] ++ f).length = f.length := rfl
    have lc : ([] ++ cutsOf m f).length = (cutsOf m f).length := rfl
    have lx : (cutsOf m f ++ cutsOf m b).length = (cutsOf m f).length + (cutsOf m b).length := List.length_append
    rw [tattinglaw1_TokParts.j1, tok_Cut_eq m f hf (by omega) _ (by omega), bs, tok_Cut_eq m b hb (by omega) _ (by omega), bs, bs, if_pos (by omega), bs, if_pos (by omega), List.nil_append, tok_Cut_eq m (f ++ b) uab (by simp; omega) _ (by simp; omega), bs, if_pos rfl, bs]
    dsimp only
    rw [if_pos (by omega), bs, if_pos (by omega), List.nil_append, hc, tattingref1_SameTokens_same _ (by omega) _ (by omega), bs]
  rw [decide_eq_false h2, tattinglaw1_TokParts.j0, ift, bs, if_pos (by omega), bs, List.nil_append]
  cases m with
  | true =>
    rw [itt, if_pos (by omega)]
    exact key true (a ++ [10]) u10 (by simp; omega) (by unfold cutsOf; rw [if_pos rfl, if_pos rfl, if_pos rfl]; exact lines_append a b)
  | false =>
    rw [ift]
    exact key false a ha (by omega) (by unfold cutsOf; simp)

theorem TokParts : tattinglaw1_TokParts.Pure := law_TokParts

end Go.Proofs.Ytfmkiankjibkfaa.Pure
namespace Go.Proofs.Ytfmkiankjibkfaa.PrintWords
/-- The row's word under the name by which the row calls it. -/
abbrev sized_ints := @Go.Proofs.YtfmkiankjibkfaaW.PrintWords.sized_ints
end Go.Proofs.Ytfmkiankjibkfaa.PrintWords
