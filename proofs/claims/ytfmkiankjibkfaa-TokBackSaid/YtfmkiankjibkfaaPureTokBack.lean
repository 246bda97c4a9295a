/- Whatever is cut in a mode and joined again is the text that was cut, and each token is one; no conditions. -/
import Derived.Test.YtfmkiankjibkfaaPTokBackx2
import Derived.Test.YtfmkiankjibkfaaWSized
namespace Go.Proofs.Ytfmkiankjibkfaa.Pure
open Go.RowKit Go.Proofs.Ytfmkiankjibkfaa.PTokBack Go.Proofs.YtfmkiankjibkfaaW.PrintWords Go.Proofs.YtfmkiankjibkfaaW.PrintLast Go.Proofs.YtfmkiankjibkfaaW.PrintMore
set_option linter.unusedVariables false
set_option linter.unusedSimpArgs false

/-! Words for the pure side: whole numbers that do not wrap, reads of lists. -/
theorem wr {x : Int} (h : -9223372036854775808 ≤ x) (h' : x < 9223372036854775808) : wrap64 x = x := by unfold wrap64; omega
theorem rd_nat (xs : List Int) (n : Nat) : rd xs (n : Int) = xs.getD n 0 := rfl
theorem rd_at {xs : List Int} {i : Int} {n : Nat} (h : i = (n : Int)) : rd xs i = xs.getD n 0 := by subst h; rfl
theorem drop_getD {xs : List Int} {i : Nat} (h : i < xs.length) : xs.drop i = xs.getD i 0 :: xs.drop (i + 1) := by
  rw [List.drop_eq_getElem_cons h]; simp [List.getD_eq_getElem?_getD, h]
theorem take_getD {xs : List Int} {i : Nat} (h : i < xs.length) : xs.take (i + 1) = xs.take i ++ [xs.getD i 0] := by
  rw [List.take_succ_eq_append_getElem h]; simp [List.getD_eq_getElem?_getD, h]

theorem lz_bind {α β : Type} {a a' : Option α} {f : α → Option β} (h : a = a') : a.bind f = a'.bind f := by rw [h]
theorem lz_ite {α : Type} {c c' : Prop} [s : Decidable c] [s' : Decidable c'] {t e : α} (h : c = c') : ite c t e = ite c' t e := by
  subst h; rw [Subsingleton.elim s s']
attribute [local congr] lz_bind lz_ite
theorem bs {α β : Type} (a : α) (f : α → Option β) : (some a).bind f = f a := by simp
theorem itt {α : Type} (t e : α) : (if (true = true) then t else e) = t := by simp
theorem ift {α : Type} (t e : α) : (if (false = true) then t else e) = e := by simp
theorem ifT {α : Type} (t e : α) : (if True then t else e) = t := by simp
theorem ifF {α : Type} (t e : α) : (if False then t else e) = e := by simp

theorem u8_wf {x : Int} (h : (Lit.int .u8 x).wf = true) : 0 ≤ x ∧ x < 256 := by
  have h' := h
  simp only [Lit.wf, Bool.and_eq_true, decide_eq_true_eq] at h'
  have e1 : IntKind.u8.min = 0 := by rfl
  have e2 : IntKind.u8.max = 255 := by rfl
  rw [e1, e2] at h'
  omega
theorem i64_wf {x : Int} (h : (Lit.int .i64 x).wf = true) : -9223372036854775808 ≤ x ∧ x < 9223372036854775808 := by
  have h' := h
  simp only [Lit.wf, Bool.and_eq_true, decide_eq_true_eq] at h'
  have e1 : IntKind.i64.min = -9223372036854775808 := by decide
  have e2 : IntKind.i64.max = 9223372036854775807 := by decide
  rw [e1, e2] at h'
  omega
theorem tmod_nat (x n : Nat) : Int.tmod (x : Int) (n : Int) = ((x % n : Nat) : Int) := by
  rw [Int.tmod_eq_emod_of_nonneg (by omega)]; exact (Int.natCast_emod _ _).symm
/-- A number within a list's places and its end. -/
theorem place (x : Int) (n : Nat) (h : 0 ≤ x ∧ x < 256) (hn : n ≤ 1000000) : ∃ p : Nat, p ≤ n ∧ Int.tmod (wrap64 x) (wrap64 ((n : Int) + 1)) = p := by
  obtain ⟨y, rfl⟩ := Int.eq_ofNat_of_zero_le h.1
  rw [wr (by omega) (by omega), wr (by omega) (by omega)]
  refine ⟨y % (n + 1), by have := Nat.mod_lt y (show 0 < n + 1 by omega); omega, ?_⟩
  have := tmod_nat y (n + 1)
  simpa using this

/-! Lists told place by place. -/
def seq {α : Type} (n : Nat) (F : Nat → α) : List α := (List.range n).map F
def upd {α : Type} (F : Nat → α) (i : Nat) (v : α) : Nat → α := fun j => if j = i then v else F j
theorem upd_same {α : Type} (F : Nat → α) (i : Nat) (v : α) : upd F i v i = v := by simp [upd]
theorem upd_ne {α : Type} (F : Nat → α) {i j : Nat} (v : α) (h : j ≠ i) : upd F i v j = F j := by simp [upd, h]
theorem seq_length {α : Type} (n : Nat) (F : Nat → α) : (seq n F).length = n := by simp [seq]
theorem seq_getD {α : Type} {n : Nat} (F : Nat → α) {i : Nat} (h : i < n) (d : α) : (seq n F).getD i d = F i := by simp [seq, h, List.getD_eq_getElem?_getD]
theorem seq_getElem {α : Type} {n : Nat} (F : Nat → α) {i : Nat} (h : i < (seq n F).length) : (seq n F)[i] = F i := by simp [seq]
theorem seq_ext {α : Type} {n : Nat} {F G : Nat → α} (h : ∀ i, i < n → F i = G i) : seq n F = seq n G := by
  unfold seq; exact List.map_congr_left fun i hi => h i (List.mem_range.1 hi)
theorem seq_set {α : Type} {n : Nat} (F : Nat → α) (i : Nat) (v : α) : (seq n F).set i v = seq n (upd F i v) := by
  apply List.ext_getElem
  · simp [seq_length]
  · intro j h1 h2
    rw [List.getElem_set, seq_getElem, seq_getElem]
    unfold upd
    by_cases h : i = j
    · rw [if_pos h, if_pos h.symm]
    · rw [if_neg h, if_neg (fun e => h e.symm)]
theorem seq_const {α : Type} (n : Nat) (v : α) : List.replicate n v = seq n (fun _ => v) := by
  apply List.ext_getElem
  · simp [seq_length]
  · intro j h1 h2; simp [seq]
theorem seq_snoc {α : Type} (n : Nat) (F : Nat → α) : seq (n + 1) F = seq n F ++ [F n] := by simp [seq, List.range_succ]
theorem seq_of {α : Type} (xs : List α) (d : α) : xs = seq xs.length (fun i => xs.getD i d) := by
  apply List.ext_getElem
  · simp [seq_length]
  · intro j h1 h2; rw [seq_getElem]; simp [List.getD_eq_getElem?_getD, h1]
theorem seq_inj {α : Type} {n : Nat} {F G : Nat → α} (h : seq n F = seq n G) : ∀ i, i < n → F i = G i := by
  intro i hi
  have := congrArg (fun l => l[i]?) h
  simpa [seq, hi] using this
theorem rd_seq {n : Nat} (F : Nat → Int) {i : Int} {p : Nat} (h : p < n) (e : i = (p : Int)) : rd (seq n F) i = F p := by
  subst e; rw [rd_nat, seq_getD F h]

/-- Where the first line ends: behind the first 10, or at the end. -/
def lineEnd : List Int → Nat
  | [] => 0
  | c :: t => if c = 10 then 1 else lineEnd t + 1
def lines : List Int → List (List Int)
  | [] => []
  | c :: t => if c = 10 then [10] :: lines t else match lines t with
    | [] => [[c]]
    | l :: ls => (c :: l) :: ls
def cutsOf (byLine : Bool) (b : List Int) : List (List Int) := if byLine = true then lines b else b.map fun c => [c]
theorem lines_eq : ∀ b : List Int, b ≠ [] → lines b = b.take (lineEnd b) :: lines (b.drop (lineEnd b))
  | [], h => absurd rfl h
  | c :: t, _ => by
    by_cases e : c = 10
    · subst e; simp [lines, lineEnd]
    · cases t with
      | nil => simp [lines, lineEnd, e]
      | cons d t =>
        have ih := lines_eq (d :: t) (by simp)
        have e2 : lineEnd (c :: d :: t) = lineEnd (d :: t) + 1 := by rw [lineEnd, if_neg e]
        rw [lines, if_neg e, ih, e2]
        simp
theorem lineEnd_le : ∀ b : List Int, lineEnd b ≤ b.length
  | [] => Nat.le_refl _
  | c :: t => by
    have := lineEnd_le t
    unfold lineEnd
    split <;> simp <;> omega
theorem lineEnd_pos : ∀ b : List Int, b ≠ [] → 0 < lineEnd b
  | [], h => absurd rfl h
  | c :: t, _ => by unfold lineEnd; split <;> omega
theorem lines_flatten : ∀ b : List Int, (lines b).flatten = b
  | [] => rfl
  | c :: t => by
    have ih := lines_flatten t
    rw [lines]
    split
    · rename_i e; simp [ih, e]
    · revert ih
      cases lines t with
      | nil => intro ih; simp at ih; simp [← ih]
      | cons l ls => intro ih; simp at ih; simp [← ih]
theorem chars_flatten : ∀ b : List Int, (b.map fun c => [c]).flatten = b
  | [] => rfl
  | c :: t => by simp [chars_flatten t]
theorem cutsOf_flatten (m : Bool) (b : List Int) : (cutsOf m b).flatten = b := by
  unfold cutsOf; split
  · exact lines_flatten b
  · exact chars_flatten b
theorem lines_length : ∀ b : List Int, (lines b).length ≤ b.length
  | [] => Nat.le_refl _
  | c :: t => by
    have ih := lines_length t
    rw [lines]
    split
    · simp; omega
    · revert ih
      cases lines t with
      | nil => intro ih; simp
      | cons l ls => intro ih; simp at ih ⊢; omega
/-- What ends with a 10 is cut as it is, and what comes behind as it is. -/
theorem lines_append : ∀ (a b : List Int), lines (a ++ [10] ++ b) = lines (a ++ [10]) ++ lines b
  | [], b => by simp [lines]
  | c :: t, b => by
    have ih := lines_append t b
    have hne : lines (t ++ [10]) ≠ [] := by
      cases t with
      | nil => simp [lines]
      | cons d t =>
        rw [List.cons_append, lines]
        split
        · simp
        · split <;> simp
    simp only [List.cons_append]
    rw [lines, lines]
    by_cases e : c = 10
    · rw [if_pos e, if_pos e, ih]; rfl
    · rw [if_neg e, if_neg e, ih]
      revert hne
      cases lines (t ++ [10]) with
      | nil => intro h; exact absurd rfl h
      | cons l ls => intro _; rfl

def u8s (b : List Int) : Prop := ∀ x ∈ b, 0 ≤ x ∧ x < 256
theorem u8s_drop {b : List Int} (h : u8s b) (n : Nat) : u8s (b.drop n) := fun x hx => h x (List.mem_of_mem_drop hx)
theorem u8s_take {b : List Int} (h : u8s b) (n : Nat) : u8s (b.take n) := fun x hx => h x (List.mem_of_mem_take hx)
theorem ten_iff (c : Int) (h : 0 ≤ c ∧ c < 256) : (UInt8.ofNat c.toNat == (10 : Int).toNat.toUInt8) = decide (c = 10) := by
  obtain ⟨n, rfl⟩ := Int.eq_ofNat_of_zero_le h.1
  rw [Bool.eq_iff_iff, beq_iff_eq, decide_eq_true_eq]
  constructor
  · intro e
    have := congrArg UInt8.toNat e
    have e10 : ((10 : Int).toNat.toUInt8).toNat = 10 := by decide
    rw [e10, UInt8.toNat_ofNat'] at this
    have e2 : ((n : Int)).toNat = n := by omega
    rw [e2] at this
    omega
  · intro e
    have : n = 10 := by omega
    subst this; rfl
theorem indexByte_cases : ∀ b : List Int, u8s b → (Lib.indexByte (Lib.bytesOf b) (10 : Int).toNat.toUInt8 = -1 ∧ lineEnd b = b.length ∧ ∀ q, q < b.length → b.getD q 0 ≠ 10) ∨ (0 ≤ Lib.indexByte (Lib.bytesOf b) (10 : Int).toNat.toUInt8 ∧ Lib.indexByte (Lib.bytesOf b) (10 : Int).toNat.toUInt8 + 1 = lineEnd b)
  | [], _ => .inl ⟨rfl, rfl, fun q hq => by simp at hq⟩
  | c :: t, h => by
    have ih := indexByte_cases t (fun x hx => h x (List.mem_cons_of_mem _ hx))
    have hc := ten_iff c (h c List.mem_cons_self)
    have e : Lib.bytesOf (c :: t) = UInt8.ofNat c.toNat :: Lib.bytesOf t := rfl
    rw [e, Lib.indexByte, hc]
    by_cases c10 : c = 10
    · rw [decide_eq_true c10, if_pos rfl, lineEnd, if_pos c10]
      exact .inr ⟨Int.le_refl _, rfl⟩
    · rw [decide_eq_false c10, if_neg (by decide), lineEnd, if_neg c10]
      rcases ih with ⟨i1, i2, i3⟩ | ⟨i1, i2⟩
      · rw [i1, if_pos (by decide)]
        refine .inl ⟨rfl, by simp [i2], fun q hq => ?_⟩
        cases q with
        | zero => simpa using c10
        | succ q => simpa using i3 q (by simpa using hq)
      · have hne : (Lib.indexByte (Lib.bytesOf t) (10 : Int).toNat.toUInt8 == -1) = false := beq_eq_false_iff_ne.2 (by omega)
        rw [hne, if_neg (by decide)]
        exact .inr ⟨by omega, by rw [i2]; rfl⟩
theorem clone_eq (b : List Int) (h : b.length ≤ 1000000) : bytes_Clone.f b = some b := by
  unfold bytes_Clone.f; rw [if_pos (by omega)]
theorem tok_Cut_lines : ∀ (n k : Nat) (b : List Int) (acc : List (List Int)), b.length = n → u8s b → b.length + acc.length ≤ 1000000 → n < k → tok_Cut.l0 k 1 b acc = some (acc ++ lines b, 0) := by
  intro n
  induction n using Nat.strongRecOn with
  | ind n ih =>
    intro k b acc hn hu hl hk
    obtain ⟨k, rfl⟩ : ∃ m, k = m + 1 := ⟨k - 1, by omega⟩
    by_cases h0 : b = []
    · subst h0
      rw [tok_Cut.l0, if_neg (by simp)]; simp [lines]
    · have hpos : 0 < b.length := List.length_pos_iff.2 h0
      have hle := lineEnd_le b
      have hlp := lineEnd_pos b h0
      have hd : (b.drop (lineEnd b)).length = b.length - lineEnd b := by simp
      have ht : (b.take (lineEnd b)).length ≤ b.length := by simp; omega
      have h4 := ih (b.length - lineEnd b) (by omega) k (b.drop (lineEnd b)) (acc ++ [b.take (lineEnd b)]) hd (u8s_drop hu _) (by simp; omega) (by omega)
      rw [List.append_assoc, List.singleton_append, ← lines_eq b h0] at h4
      rw [tok_Cut.l0, if_pos (by omega), if_pos rfl]
      unfold bytes_IndexByte.f
      rw [bs]
      rcases indexByte_cases b hu with ⟨i1, i2, _⟩ | ⟨i1, i2⟩
      · rw [i2] at h4
        rw [i1, wr (by omega) (by omega), if_pos (by omega), if_pos (by omega), if_pos (by omega), Int.toNat_natCast, clone_eq _ (by simp; omega), bs, if_pos (by omega), h4]
      · have e2 : (lineEnd b : Int).toNat = lineEnd b := by omega
        rw [i2, wr (by omega) (by omega), if_neg (by omega), if_pos (by omega), if_pos (by omega), e2, clone_eq _ (by omega), bs, if_pos (by omega), h4]
theorem tok_Cut_chars : ∀ (b : List Int) (k : Nat) (acc : List (List Int)), b.length + acc.length ≤ 1000000 → b.length < k → tok_Cut.l0 k 0 b acc = some (acc ++ b.map fun c => [c], 0)
  | [], k, acc, _, hk => by
    obtain ⟨k, rfl⟩ : ∃ m, k = m + 1 := ⟨k - 1, by omega⟩
    rw [tok_Cut.l0, if_neg (by simp)]; simp
  | c :: t, k, acc, hl, hk => by
    obtain ⟨k, rfl⟩ : ∃ m, k = m + 1 := ⟨k - 1, by omega⟩
    have hlen : (c :: t).length = t.length + 1 := rfl
    have h4 := tok_Cut_chars t k (acc ++ [[c]]) (by simp; omega) (by omega)
    rw [tok_Cut.l0, if_pos (by omega), if_neg (by decide), if_pos (by omega), clone_eq _ (by simp), bs, if_pos (by omega)]
    simp only [List.take_succ_cons, List.take_zero, List.drop_succ_cons, List.drop_zero]
    rw [h4]; simp
def modeOf (m : Bool) : Int := if m = true then 1 else 0
theorem tok_Cut_eq (m : Bool) (b : List Int) (hu : u8s b) (hb : b.length ≤ 100000) (k : Nat) (hk : b.length < k) : tok_Cut.f k (modeOf m) b = some (cutsOf m b, 0) := by
  unfold tok_Cut.f tok_isMode.f modeOf cutsOf
  cases m with
  | true =>
    rw [if_pos rfl, if_neg (by decide), bs, if_pos (by decide), tok_Cut_lines b.length k b [] rfl hu (by simp; omega) hk, if_pos rfl]; rfl
  | false =>
    show ((if (0 : Int) = 0 then some true else some ((0 : Int) == 1)).bind fun t => if t = true then tok_Cut.l0 k 0 b [] else some ([], 1)) = some (b.map fun c => [c], 0)
    rw [if_pos rfl, bs, if_pos rfl, tok_Cut_chars b k [] (by simp; omega) hk]; rfl
theorem tok_Cut_other (x : Int) (h0 : x ≠ 0) (h1 : x ≠ 1) (b : List Int) (k : Nat) : tok_Cut.f k x b = some ([], 1) := by
  unfold tok_Cut.f tok_isMode.f
  rw [if_neg h0, bs, beq_eq_false_iff_ne.2 h1, if_neg (by decide)]

theorem bytesOf_eq (a b : List Int) : (strOfNums a).toList = (strOfNums a).toList := rfl
theorem tok_Join_l0 (l : List (List Int)) (hl : l.length ≤ 1000000) (hs : l.flatten.length ≤ 1000000) : ∀ (d k p : Nat), p + d = l.length → d < k → tok_Join.l0 k (l.take p).flatten l l.length p = some l.flatten := by
  intro d
  induction d with
  | zero =>
    intro k p hp hk
    obtain ⟨k, rfl⟩ : ∃ m, k = m + 1 := ⟨k - 1, by omega⟩
    rw [tok_Join.l0, if_neg (by omega), List.take_of_length_le (by omega)]
  | succ d ih =>
    intro k p hp hk
    obtain ⟨k, rfl⟩ : ∃ m, k = m + 1 := ⟨k - 1, by omega⟩
    have e1 : rd_L1 l (p : Int) = l.getD p [] := rfl
    have e2 : l.take (p + 1) = l.take p ++ [l.getD p []] := by
      rw [List.take_succ_eq_append_getElem (by omega)]; simp [List.getD_eq_getElem?_getD, show p < l.length by omega]
    have e3 : (l.take (p + 1)).flatten = (l.take p).flatten ++ l.getD p [] := by rw [e2]; simp
    have e4 : l.flatten = (l.take (p + 1)).flatten ++ (l.drop (p + 1)).flatten := by rw [← List.flatten_append, List.take_append_drop]
    have h4 := ih k (p + 1) (by omega) (by omega)
    have hlen : (l.take p).flatten.length + (l.getD p []).length ≤ 1000000 := by
      have := congrArg List.length e4
      rw [e3] at this
      simp only [List.length_append] at this
      omega
    rw [e3] at h4
    simp only [Int.natCast_add, Int.cast_ofNat_Int] at h4
    rw [tok_Join.l0, if_pos (by omega), if_pos (by omega), if_pos (by omega), e1, if_pos (by omega), wr (by omega) (by omega), h4]
theorem tok_Join_eq (l : List (List Int)) (hl : l.length ≤ 1000000) (hs : l.flatten.length ≤ 1000000) (k : Nat) (hk : l.length < k) : tok_Join.f k l = some l.flatten := by
  unfold tok_Join.f
  exact tok_Join_l0 l hl hs l.length k 0 (by omega) hk

theorem lineEnd_at : ∀ (l : List Int) (n : Nat), (∀ q, q < n → l.getD q 0 ≠ 10) → n < l.length → l.getD n 0 = 10 → lineEnd l = n + 1
  | [], n, _, h, _ => by simp at h
  | c :: t, 0, _, _, e => by
    have e : c = 10 := by simpa using e
    rw [lineEnd, if_pos e]
  | c :: t, n + 1, hn, hl, e => by
    have h0 : c ≠ 10 := by simpa using hn 0 (by omega)
    rw [lineEnd, if_neg h0, lineEnd_at t n (fun q hq => by simpa using hn (q + 1) (by omega)) (by simpa using hl) (by simpa using e)]
theorem lineEnd_none : ∀ (l : List Int), (∀ q, q < l.length → l.getD q 0 ≠ 10) → lineEnd l = l.length
  | [], _ => rfl
  | c :: t, hn => by
    have h0 : c ≠ 10 := by simpa using hn 0 (by simp)
    rw [lineEnd, if_neg h0, lineEnd_none t (fun q hq => by simpa using hn (q + 1) (by simpa using hq))]; rfl
theorem getD_drop0 (a : List Int) (i p : Nat) : (a.drop i).getD p 0 = a.getD (i + p) 0 := by simp [List.getD_eq_getElem?_getD]

theorem cutsOf_length (m : Bool) (b : List Int) : (cutsOf m b).length ≤ b.length := by
  unfold cutsOf; split
  · exact lines_length b
  · simp

theorem awake_400 : tattinglaw1_awake.f 400 = some true := by
  unfold tattinglaw1_awake.f
  simp only [Lib.strOfNums_toList]
  decide +kernel
/-- Each line is a token; each but the last one ends with a 10. -/
theorem lines_each : ∀ (n : Nat) (b : List Int), b.length = n → u8s b → ∀ i, i < (lines b).length →
    ((lines b).getD i []).length ≤ b.length ∧ ((lines b).getD i []) ≠ [] ∧ u8s ((lines b).getD i []) ∧ (∀ q, q + 1 < ((lines b).getD i []).length → ((lines b).getD i []).getD q 0 ≠ 10) ∧ (i + 1 < (lines b).length → ((lines b).getD i []).getD (((lines b).getD i []).length - 1) 0 = 10) := by
  intro n
  induction n using Nat.strongRecOn with
  | ind n ih =>
    intro b hn hu i hi
    have h0 : b ≠ [] := by rintro rfl; simp [lines] at hi
    have hle := lineEnd_le b
    have hlp := lineEnd_pos b h0
    have hlen : (b.take (lineEnd b)).length = lineEnd b := by simp; omega
    have hcase := indexByte_cases b hu
    have hprop : (∀ q, q + 1 < lineEnd b → b.getD q 0 ≠ 10) ∧ (lineEnd b < b.length → b.getD (lineEnd b - 1) 0 = 10) := by
      clear ih hi hcase hlen hle hlp hn i n hu
      induction b with
      | nil => exact absurd rfl h0
      | cons c t iht =>
        by_cases c10 : c = 10
        · subst c10
          refine ⟨fun q hq => ?_, fun _ => ?_⟩
          · rw [lineEnd, if_pos rfl] at hq; omega
          · rw [lineEnd, if_pos rfl]; rfl
        · rw [lineEnd, if_neg c10]
          by_cases ht : t = []
          · subst ht
            refine ⟨fun q hq => ?_, fun hq => ?_⟩
            · simp [lineEnd] at hq
            · simp [lineEnd] at hq
          · obtain ⟨i1, i2⟩ := iht ht
            have hp := lineEnd_pos t ht
            refine ⟨fun q hq => ?_, fun hq => ?_⟩
            · cases q with
              | zero => simpa using c10
              | succ q => simpa using i1 q (by omega)
            · have := i2 (by simpa using hq)
              rw [show lineEnd t + 1 - 1 = (lineEnd t - 1) + 1 by omega]
              simpa using this
    have hget : ∀ q, q < lineEnd b → (b.take (lineEnd b)).getD q 0 = b.getD q 0 := fun q hq => by
      rw [List.getD_eq_getElem?_getD, List.getElem?_take, if_pos hq, ← List.getD_eq_getElem?_getD]
    rw [lines_eq b h0] at hi ⊢
    cases i with
    | zero =>
      have e : (b.take (lineEnd b) :: lines (b.drop (lineEnd b))).getD 0 [] = b.take (lineEnd b) := rfl
      rw [e, hlen]
      refine ⟨hle, ?_, u8s_take hu _, fun q hq => ?_, fun hq => ?_⟩
      · intro e2; rw [e2] at hlen; simp at hlen; omega
      · rw [hget q (by omega)]; exact hprop.1 q hq
      · rw [hget _ (by omega)]
        refine hprop.2 (Nat.lt_of_not_le fun hge => ?_)
        rw [List.drop_eq_nil_of_le hge] at hq
        simp [lines] at hq
    | succ i =>
      have e : (b.take (lineEnd b) :: lines (b.drop (lineEnd b))).getD (i + 1) [] = (lines (b.drop (lineEnd b))).getD i [] := by simp
      rw [e]
      have hd : (b.drop (lineEnd b)).length = b.length - lineEnd b := by simp
      obtain ⟨i1, i2, i3, i4, i5⟩ := ih (b.length - lineEnd b) (by omega) (b.drop (lineEnd b)) hd (u8s_drop hu _) i (by simpa using hi)
      exact ⟨by omega, i2, i3, i4, fun hq => i5 (by simpa using hq)⟩
theorem indexByte_none : ∀ b : List Int, u8s b → (∀ q, q < b.length → b.getD q 0 ≠ 10) → Lib.indexByte (Lib.bytesOf b) (10 : Int).toNat.toUInt8 = -1
  | [], _, _ => rfl
  | c :: t, h, hn => by
    have ih := indexByte_none t (fun x hx => h x (List.mem_cons_of_mem _ hx)) (fun q hq => by simpa using hn (q + 1) (by simpa using hq))
    have hc := ten_iff c (h c List.mem_cons_self)
    have c10 : c ≠ 10 := by simpa using hn 0 (by simp)
    have e : Lib.bytesOf (c :: t) = UInt8.ofNat c.toNat :: Lib.bytesOf t := rfl
    rw [e, Lib.indexByte, hc, decide_eq_false c10, if_neg (by decide), ih, if_pos (by decide)]
theorem tok_Is_line (t : List Int) (ht : t.length ≤ 100000) (h0 : t ≠ []) (hu : u8s t) (hn : ∀ q, q + 1 < t.length → t.getD q 0 ≠ 10) : tok_Is.f 1 t = some true := by
  have hpos : 0 < t.length := List.length_pos_iff.2 h0
  have hcut : ∀ q, q < (t.take (t.length - 1)).length → (t.take (t.length - 1)).getD q 0 ≠ 10 := fun q hq => by
    have hq' : q < t.length - 1 := by simp at hq; omega
    rw [List.getD_eq_getElem?_getD, List.getElem?_take, if_pos hq', ← List.getD_eq_getElem?_getD]
    exact hn q (by omega)
  have hi := indexByte_none _ (u8s_take hu (t.length - 1)) hcut
  have e : ((t.length : Int) - 1).toNat = t.length - 1 := by omega
  unfold tok_Is.f bytes_IndexByte.f
  rw [if_neg (by decide), if_pos rfl, if_pos (by omega), wr (by omega) (by omega), if_pos (by omega), if_pos (by omega), e, hi, bs]
  rfl
theorem tok_Is_char (t : List Int) (h : t.length = 1) : tok_Is.f 0 t = some true := by
  unfold tok_Is.f
  rw [if_pos rfl, h]; rfl
theorem back_lines (b : List Int) (hb : b.length ≤ 100000) (hu : u8s b) : ∀ (d k i : Nat), i + d = (lines b).length → d < k → tattinglaw1_TokBack.l0 k true 1 (lines b) i = some true := by
  have hl := lines_length b
  intro d
  induction d with
  | zero =>
    intro k i hi hk
    obtain ⟨k, rfl⟩ : ∃ m, k = m + 1 := ⟨k - 1, by omega⟩
    rw [tattinglaw1_TokBack.l0, if_neg (by omega)]
  | succ d ih =>
    intro k i hi hk
    obtain ⟨k, rfl⟩ : ∃ m, k = m + 1 := ⟨k - 1, by omega⟩
    have h4 := ih k (i + 1) (by omega) (by omega)
    simp only [Int.natCast_add, Int.cast_ofNat_Int] at h4
    have e1 : rd_L1 (lines b) (i : Int) = (lines b).getD i [] := rfl
    obtain ⟨i1, i2, i3, i4, i5⟩ := lines_each b.length b rfl hu i (by omega)
    rw [tattinglaw1_TokBack.l0, if_pos (by omega), if_pos (by omega), e1]
    generalize (lines b).getD i [] = t at *
    have hpos : 0 < t.length := List.length_pos_iff.2 i2
    rw [tok_Is_line t (by omega) i2 i3 i4, bs, itt, itt, wr (x := (i : Int) + 1) (by omega) (by omega)]
    by_cases c : (i : Int) + 1 < (lines b).length
    · have e2 : rd t ((t.length : Int) - 1) = t.getD (t.length - 1) 0 := rd_at (by omega)
      rw [if_pos c, if_neg (by omega), wr (by omega) (by omega), if_pos (by omega), if_pos (by omega), e2, if_pos (i5 (by omega)), h4]
    · rw [if_neg c, h4]
theorem back_chars (b : List Int) (hb : b.length ≤ 100000) : ∀ (d k i : Nat), i + d = b.length → d < k → tattinglaw1_TokBack.l0 k false 0 (b.map fun c => [c]) i = some true := by
  have hl : (b.map fun c => [c]).length = b.length := by simp
  intro d
  induction d with
  | zero =>
    intro k i hi hk
    obtain ⟨k, rfl⟩ : ∃ m, k = m + 1 := ⟨k - 1, by omega⟩
    rw [tattinglaw1_TokBack.l0, if_neg (by omega)]
  | succ d ih =>
    intro k i hi hk
    obtain ⟨k, rfl⟩ : ∃ m, k = m + 1 := ⟨k - 1, by omega⟩
    have h4 := ih k (i + 1) (by omega) (by omega)
    simp only [Int.natCast_add, Int.cast_ofNat_Int] at h4
    have e1 : (rd_L1 (b.map fun c => [c]) (i : Int)).length = 1 := by
      unfold rd_L1
      rw [Int.toNat_natCast, List.getD_eq_getElem?_getD, List.getElem?_map, List.getElem?_eq_getElem (show i < b.length by omega)]
      rfl
    rw [tattinglaw1_TokBack.l0, if_pos (by omega), if_pos (by omega), tok_Is_char _ e1, bs, itt, ift, wr (by omega) (by omega), h4]
theorem law_TokBack : tattinglaw1_TokBack.Pure := by
  intro m b _ _ hb
  have hb : u8s b := fun x hx => u8_wf (hb x hx)
  refine ⟨402, ?_⟩
  have haw : tattinglaw1_awake.f 402 = some true := tattinglaw1_awake.mono 401 _ (tattinglaw1_awake.mono 400 _ awake_400)
  unfold tattinglaw1_TokBack.f
  rw [haw, bs, itt]
  by_cases h1 : (b.length : Int) > 300
  · rw [if_pos h1]
  rw [if_neg h1]
  have c1 := cutsOf_length m b
  have hf := cutsOf_flatten m b
  have hfl := congrArg List.length hf
  have key : tattinglaw1_TokBack.j0 402 m b (modeOf m) = some true := by
    rw [tattinglaw1_TokBack.j0, tok_Cut_eq m b hb (by omega) _ (by omega), bs, if_pos rfl, tok_Join_eq (cutsOf m b) (by omega) (by omega) _ (by omega), bs, hf]
    have e : ((strOfNums b).toList != (strOfNums b).toList) = false := by simp
    rw [e, tattinglaw1_TokBack.j1, ift]
    cases m with
    | true => exact back_lines b (by omega) hb (lines b).length 400 0 (by omega) (by have := lines_length b; omega)
    | false => exact back_chars b (by omega) b.length 400 0 (by omega) (by omega)
  cases m with
  | true => rw [itt]; exact key
  | false => rw [ift]; exact key

theorem TokBack : tattinglaw1_TokBack.Pure := law_TokBack

end Go.Proofs.Ytfmkiankjibkfaa.Pure
namespace Go.Proofs.Ytfmkiankjibkfaa.PrintWords
/-- The row's word under the name by which the row calls it. -/
abbrev sized_ints := @Go.Proofs.YtfmkiankjibkfaaW.PrintWords.sized_ints
end Go.Proofs.Ytfmkiankjibkfaa.PrintWords
