/- Cells tells what the reference tells, of every two lengths and every bound: no condition beside the statement's own. -/
import Derived.Test.YtcjngbpmdmfbdaaPBandCellsx3
import Derived.Test.YtcjngbpmdmfbdaaWSized
namespace Go.Proofs.Ytcjngbpmdmfbdaa.Pure
open Go.RowKit Go.Proofs.Ytcjngbpmdmfbdaa.PBandCells Go.Proofs.YtcjngbpmdmfbdaaW.PrintWords Go.Proofs.YtcjngbpmdmfbdaaW.PrintLast Go.Proofs.YtcjngbpmdmfbdaaW.PrintMore
set_option linter.unusedVariables false
set_option linter.unusedSimpArgs false

/-! Words for the pure side: whole numbers that do not wrap, reads of lists. -/
theorem wr {x : Int} (h : -9223372036854775808 ≤ x) (h' : x < 9223372036854775808) : wrap64 x = x := by unfold wrap64; omega
theorem rd_nat (xs : List Int) (n : Nat) : rd xs (n : Int) = xs.getD n 0 := rfl
theorem rd_at {xs : List Int} {i : Int} {n : Nat} (h : i = (n : Int)) : rd xs i = xs.getD n 0 := by subst h; rfl
theorem drop_getD {xs : List Int} {i : Nat} (h : i < xs.length) : xs.drop i = xs.getD i 0 :: xs.drop (i + 1) := by
  rw [List.drop_eq_getElem_cons h]; simp [List.getD_eq_getElem?_getD, h]
theorem take_getD {xs : List Int} {i : Nat} (h : i < xs.length) : xs.take (i + 1) = xs.take i ++ [xs.getD i 0] := by
  rw [List.take_succ_eq_append_getElem h]; simp [List.getD_eq_getElem?_getD, h]

theorem lz_bind {α β : Type} {a a' : Option α} {f : α → Option β} (h : a = a') : a.bind f = a'.bind f := by rw [h]
theorem lz_ite {α : Type} {c c' : Prop} [s : Decidable c] [s' : Decidable c'] {t e : α} (h : c = c') : ite c t e = ite c' t e := by
  subst h; rw [Subsingleton.elim s s']
attribute [local congr] lz_bind lz_ite
theorem bs {α β : Type} (a : α) (f : α → Option β) : (some a).bind f = f a := by simp
theorem itt {α : Type} (t e : α) : (if (true = true) then t else e) = t := by simp
theorem ift {α : Type} (t e : α) : (if (false = true) then t else e) = e := by simp
theorem ifT {α : Type} (t e : α) : (if True then t else e) = t := by simp
theorem ifF {α : Type} (t e : α) : (if False then t else e) = e := by simp

theorem u8_wf {x : Int} (h : (Lit.int .u8 x).wf = true) : 0 ≤ x ∧ x < 256 := by
  have h' := h
  simp only [Lit.wf, Bool.and_eq_true, decide_eq_true_eq] at h'
  have e1 : IntKind.u8.min = 0 := by rfl
  have e2 : IntKind.u8.max = 255 := by rfl
  rw [e1, e2] at h'
  omega
theorem i64_wf {x : Int} (h : (Lit.int .i64 x).wf = true) : -9223372036854775808 ≤ x ∧ x < 9223372036854775808 := by
  have h' := h
  simp only [Lit.wf, Bool.and_eq_true, decide_eq_true_eq] at h'
  have e1 : IntKind.i64.min = -9223372036854775808 := by decide
  have e2 : IntKind.i64.max = 9223372036854775807 := by decide
  rw [e1, e2] at h'
  omega
theorem tmod_nat (x n : Nat) : Int.tmod (x : Int) (n : Int) = ((x % n : Nat) : Int) := by
  rw [Int.tmod_eq_emod_of_nonneg (by omega)]; exact (Int.natCast_emod _ _).symm
/-- A number within a list's places and its end. -/
theorem place (x : Int) (n : Nat) (h : 0 ≤ x ∧ x < 256) (hn : n ≤ 1000000) : ∃ p : Nat, p ≤ n ∧ Int.tmod (wrap64 x) (wrap64 ((n : Int) + 1)) = p := by
  obtain ⟨y, rfl⟩ := Int.eq_ofNat_of_zero_le h.1
  rw [wr (by omega) (by omega), wr (by omega) (by omega)]
  refine ⟨y % (n + 1), by have := Nat.mod_lt y (show 0 < n + 1 by omega); omega, ?_⟩
  have := tmod_nat y (n + 1)
  simpa using this

/-! Sums of the first so many numbers. -/
def sumN : Nat → (Nat → Nat) → Nat
  | 0, _ => 0
  | n + 1, f => sumN n f + f n
theorem sumN_congr {n : Nat} {f g : Nat → Nat} (h : ∀ i, i < n → f i = g i) : sumN n f = sumN n g := by
  induction n with
  | zero => rfl
  | succ n ih => simp only [sumN]; rw [ih (fun i hi => h i (by omega)), h n (by omega)]
theorem sumN_add (n : Nat) (f g : Nat → Nat) : sumN n (fun i => f i + g i) = sumN n f + sumN n g := by
  induction n with
  | zero => rfl
  | succ n ih => simp only [sumN]; omega
theorem sumN_zero (n : Nat) : sumN n (fun _ => 0) = 0 := by
  induction n with
  | zero => rfl
  | succ n ih => simp only [sumN]; omega
theorem sumN_le {n : Nat} {f g : Nat → Nat} (h : ∀ i, i < n → f i ≤ g i) : sumN n f ≤ sumN n g := by
  induction n with
  | zero => exact Nat.le_refl _
  | succ n ih => simp only [sumN]; have := ih (fun i hi => h i (by omega)); have := h n (by omega); omega
theorem sumN_const (n c : Nat) : sumN n (fun _ => c) = n * c := by
  induction n with
  | zero => simp [sumN]
  | succ n ih => simp only [sumN]; rw [ih, Nat.succ_mul]
theorem sumN_comm (n m : Nat) (f : Nat → Nat → Nat) : sumN n (fun i => sumN m fun j => f i j) = sumN m (fun j => sumN n fun i => f i j) := by
  induction n with
  | zero => simp only [sumN]; rw [sumN_zero]
  | succ n ih => simp only [sumN]; rw [ih, sumN_add]
theorem sumN_interval (n : Nat) (a b : Int) : ((sumN n (fun i => if a ≤ (i : Int) ∧ (i : Int) ≤ b then 1 else 0) : Nat) : Int) = max 0 (min ((n : Int) - 1) b - max 0 a + 1) := by
  induction n with
  | zero => simp only [sumN]; omega
  | succ n ih =>
    simp only [sumN]
    by_cases h : a ≤ (n : Int) ∧ (n : Int) ≤ b
    · rw [if_pos h]; omega
    · rw [if_neg h]; omega
/-- The points of the grid on diagonal d. -/
def onDiag (n m : Nat) (d : Int) : Nat := sumN (n + 1) fun i => sumN (m + 1) fun j => if (i : Int) - (j : Int) = d then 1 else 0
theorem onDiag_eq (n m : Nat) (d : Int) (h1 : -(m : Int) ≤ d) (h2 : d ≤ n) : ((onDiag n m d : Nat) : Int) = min (m : Int) (n - d) - max 0 (-d) + 1 := by
  unfold onDiag
  have e : (sumN (n + 1) fun i => sumN (m + 1) fun j => if (i : Int) - (j : Int) = d then 1 else 0) = sumN (n + 1) fun i => if d ≤ (i : Int) ∧ (i : Int) ≤ m + d then 1 else 0 := by
    refine sumN_congr fun i hi => ?_
    have h3 := sumN_interval (m + 1) ((i : Int) - d) ((i : Int) - d)
    have h4 : (sumN (m + 1) fun j => if (i : Int) - (j : Int) = d then 1 else 0) = sumN (m + 1) (fun j => if (i : Int) - d ≤ (j : Int) ∧ (j : Int) ≤ (i : Int) - d then 1 else 0) := by
      refine sumN_congr fun j hj => ?_
      by_cases h : (i : Int) - (j : Int) = d
      · rw [if_pos h, if_pos (by omega)]
      · rw [if_neg h, if_neg (by omega)]
    rw [h4]
    split <;> omega
  rw [e]
  have := sumN_interval (n + 1) d (m + d)
  omega
def band (n m : Nat) (lo hi : Int) : Nat := sumN (n + 1) fun i => sumN (m + 1) fun j => if lo ≤ (i : Int) - (j : Int) ∧ (i : Int) - (j : Int) ≤ hi then 1 else 0
theorem band_empty (n m : Nat) (lo hi : Int) (h : hi < lo) : band n m lo hi = 0 := by
  unfold band
  rw [sumN_congr (g := fun _ => 0) (fun i _ => ?_), sumN_zero]
  rw [sumN_congr (g := fun _ => 0) (fun j _ => ?_), sumN_zero]
  rw [if_neg (by omega)]
theorem band_step (n m : Nat) (lo hi : Int) (h : lo ≤ hi + 1) : band n m lo (hi + 1) = band n m lo hi + onDiag n m (hi + 1) := by
  unfold band onDiag
  rw [← sumN_add]
  refine sumN_congr fun i _ => ?_
  rw [← sumN_add]
  refine sumN_congr fun j _ => ?_
  by_cases h1 : lo ≤ (i : Int) - (j : Int) ∧ (i : Int) - (j : Int) ≤ hi
  · rw [if_pos h1, if_pos (by omega), if_neg (by omega)]
  · rw [if_neg h1]
    by_cases h2 : (i : Int) - (j : Int) = hi + 1
    · rw [if_pos (by omega), if_pos h2]
    · rw [if_neg (by omega), if_neg h2]
theorem band_le (n m : Nat) (lo hi : Int) : band n m lo hi ≤ (n + 1) * (m + 1) := by
  have : band n m lo hi ≤ sumN (n + 1) fun _ => sumN (m + 1) fun _ => 1 := by
    unfold band
    refine sumN_le fun i _ => sumN_le fun j _ => ?_
    split <;> omega
  rw [sumN_const, sumN_const] at this
  simpa using this
def apart (x y : Int) : Int := if x > y then x - y else y - x
/-- The points that are not too far from the middle. -/
def cells (n m : Nat) (k : Int) : Nat := sumN (n + 1) fun i => sumN (m + 1) fun j => if apart i j + apart ((n : Int) - i) ((m : Int) - j) ≤ k then 1 else 0
def bandLo (n m : Nat) (k : Int) : Int := max (-(m : Int)) (min 0 ((n : Int) - m) - min ((k - max ((n : Int) - m) ((m : Int) - n)) / 2) m)
def bandHi (n m : Nat) (k : Int) : Int := min (n : Int) (max 0 ((n : Int) - m) + min ((k - max ((n : Int) - m) ((m : Int) - n)) / 2) n)
theorem cells_none (n m : Nat) (k : Int) (h : k < max ((n : Int) - m) ((m : Int) - n)) : cells n m k = 0 := by
  unfold cells
  rw [sumN_congr (g := fun _ => 0) (fun i _ => ?_), sumN_zero]
  rw [sumN_congr (g := fun _ => 0) (fun j _ => ?_), sumN_zero]
  rw [if_neg]
  unfold apart
  split <;> split <;> omega
theorem cells_band (n m : Nat) (k : Int) (h : max ((n : Int) - m) ((m : Int) - n) ≤ k) : cells n m k = band n m (bandLo n m k) (bandHi n m k) := by
  unfold cells band bandLo bandHi
  refine sumN_congr fun i hi => sumN_congr fun j hj => ?_
  have e : (apart i j + apart ((n : Int) - i) ((m : Int) - j) ≤ k) ↔ (max (-(m : Int)) (min 0 ((n : Int) - m) - min ((k - max ((n : Int) - m) ((m : Int) - n)) / 2) m) ≤ (i : Int) - j ∧ (i : Int) - j ≤ min (n : Int) (max 0 ((n : Int) - m) + min ((k - max ((n : Int) - m) ((m : Int) - n)) / 2) n)) := by
    unfold apart
    split <;> split <;> omega
  by_cases c : apart i j + apart ((n : Int) - i) ((m : Int) - j) ≤ k
  · rw [if_pos c, if_pos (e.1 c)]
  · rw [if_neg c, if_neg (fun h => c (e.2 h))]

theorem mx_max (a b : Int) : mx a b = max a b := by unfold mx; omega
theorem mn_min (a b : Int) : mn a b = min a b := by unfold mn; omega
theorem band_is_eq (a : Int) : band_is.f a = some (decide (0 ≤ a ∧ a ≤ 1048576)) := by
  unfold band_is.f
  by_cases h1 : 0 ≤ a <;> by_cases h2 : a ≤ 1048576 <;> simp [h1, h2]
theorem band_edges_none (n m : Nat) (k : Int) (hn : n ≤ 1048576) (hm : m ≤ 1048576) (h : k < max ((n : Int) - m) ((m : Int) - n)) : band_edges.f n m k = some (0, 0, false) := by
  unfold band_edges.f
  simp (disch := omega) only [wr, mx_max]
  rw [if_pos (by omega)]
theorem band_edges_some (n m : Nat) (k : Int) (hn : n ≤ 1048576) (hm : m ≤ 1048576) (hk : k < 9223372036854775808) (h : max ((n : Int) - m) ((m : Int) - n) ≤ k) : band_edges.f n m k = some (bandLo n m k, bandHi n m k, true) := by
  unfold band_edges.f bandLo bandHi
  have e1 : -((n : Int) - m) = (m : Int) - n := by omega
  have e2 : ∀ x : Int, 0 ≤ x → Int.tdiv x 2 = x / 2 := fun x hx => Int.tdiv_eq_ediv_of_nonneg hx
  rw [wr (x := (n : Int) - m) (by omega) (by omega), wr (x := -((n : Int) - m)) (by omega) (by omega), e1]
  simp only [mx_max, mn_min]
  rw [if_neg (by omega), wr (x := k - max ((n : Int) - m) ((m : Int) - n)) (by omega) (by omega), e2 _ (by omega), wr (x := (k - max ((n : Int) - m) ((m : Int) - n)) / 2) (by omega) (by omega)]
  rw [wr (x := -(m : Int)) (by omega) (by omega), wr (by omega) (by omega), wr (by omega) (by omega)]
theorem band_Cells_l0 (n m : Nat) (hn : n ≤ 100000) (hm : m ≤ 100000) (lo hi : Int) (h1 : -(m : Int) ≤ lo) (h2 : hi ≤ n) : ∀ (e : Nat) (d : Int), lo ≤ d → d + e = max (hi + 1) lo → ∀ k, e < k →
    band_Cells.l0 k n m hi (band n m lo (d - 1)) d = some ((band n m lo hi : Nat) : Int) := by
  have hb : ∀ x, ((band n m lo x : Nat) : Int) ≤ 100001 * 100001 := fun x => by
    have h := band_le n m lo x
    have h' : (n + 1) * (m + 1) ≤ 100001 * 100001 := Nat.mul_le_mul (by omega) (by omega)
    omega
  intro e
  induction e with
  | zero =>
    intro d hd he k hk
    obtain ⟨k, rfl⟩ : ∃ q, k = q + 1 := ⟨k - 1, by omega⟩
    rw [band_Cells.l0, if_neg (by omega)]
    by_cases c : hi + 1 ≤ lo
    · rw [band_empty n m lo (d - 1) (by omega), band_empty n m lo hi (by omega)]
    · rw [show d - 1 = hi by omega]
  | succ e ih =>
    intro d hd he k hk
    obtain ⟨k, rfl⟩ : ∃ q, k = q + 1 := ⟨k - 1, by omega⟩
    rw [band_Cells.l0, if_pos (by omega)]
    have hs := band_step n m lo (d - 1) (by omega)
    rw [show d - 1 + 1 = d by omega] at hs
    have ho := onDiag_eq n m d (by omega) (by omega)
    have hbd := hb (d - 1)
    have h4 := ih (d + 1) (by omega) (by omega) k (by omega)
    rw [show d + 1 - 1 = d by omega, hs] at h4
    simp only [mx_max, mn_min]
    rw [wr (x := (n : Int) - d) (by omega) (by omega), wr (x := -d) (by omega) (by omega), wr (x := min (m : Int) ((n : Int) - d) - max 0 (-d)) (by omega) (by omega), wr (x := min (m : Int) ((n : Int) - d) - max 0 (-d) + 1) (by omega) (by omega), wr (x := d + 1) (by omega) (by omega), wr (by omega) (by omega), ← ho]
    exact_mod_cast h4
theorem band_edges_in (n m : Nat) (k : Int) (h : max ((n : Int) - m) ((m : Int) - n) ≤ k) : -(m : Int) ≤ bandLo n m k ∧ bandHi n m k ≤ n ∧ bandLo n m k ≤ bandHi n m k ∧ bandHi n m k - bandLo n m k ≤ k := by
  unfold bandLo bandHi; omega
theorem band_Cells_out (n m k : Int) (h : ¬ (0 ≤ n ∧ n ≤ 1048576 ∧ 0 ≤ m ∧ m ≤ 1048576 ∧ 0 ≤ k)) (K : Nat) (hK : 0 < K) : band_Cells.f K n m k = some 0 := by
  obtain ⟨K, rfl⟩ : ∃ q, K = q + 1 := ⟨K - 1, by omega⟩
  unfold band_Cells.f
  rw [band_is_eq, bs]
  by_cases h1 : 0 ≤ n ∧ n ≤ 1048576
  · rw [decide_eq_true h1, itt, band_is_eq, bs]
    by_cases h2 : 0 ≤ m ∧ m ≤ 1048576
    · rw [decide_eq_true h2, itt, decide_eq_true (by omega), band_Cells.j0, itt]
    · rw [decide_eq_false h2, ift, band_Cells.j0, itt]
  · rw [decide_eq_false h1, ift, band_Cells.j0, itt]
theorem band_Cells_eq (n m : Nat) (k : Int) (hn : n ≤ 100000) (hm : m ≤ 100000) (h0 : 0 ≤ k) (hk : k < 9223372036854775808) (K : Nat) (hK : n + m + 3 < K) : band_Cells.f K n m k = some ((cells n m k : Nat) : Int) := by
  obtain ⟨K, rfl⟩ : ∃ q, K = q + 1 := ⟨K - 1, by omega⟩
  unfold band_Cells.f
  rw [band_is_eq, bs, decide_eq_true (by omega), itt, band_is_eq, bs, decide_eq_true (by omega), itt, decide_eq_false (by omega), band_Cells.j0, ift]
  by_cases h : max ((n : Int) - m) ((m : Int) - n) ≤ k
  · obtain ⟨e1, e2, e3, e4⟩ := band_edges_in n m k h
    rw [band_edges_some n m k (by omega) (by omega) hk h, bs, itt, cells_band n m k h]
    have := band_Cells_l0 n m hn hm (bandLo n m k) (bandHi n m k) e1 e2 (bandHi n m k + 1 - bandLo n m k).toNat (bandLo n m k) (by omega) (by omega) K (by omega)
    rw [band_empty n m _ (bandLo n m k - 1) (by omega)] at this
    exact this
  · rw [band_edges_none n m k (by omega) (by omega) (by omega), bs, ift, cells_none n m k (by omega)]; rfl

theorem tattingref15_Apart_eq (x y : Int) (hx : -1000000000 ≤ x ∧ x ≤ 1000000000) (hy : -1000000000 ≤ y ∧ y ≤ 1000000000) : tattingref15_Apart.f x y = some (apart x y) := by
  unfold tattingref15_Apart.f apart
  split
  · rw [wr (by omega) (by omega)]
  · rw [wr (by omega) (by omega)]
theorem tattingref15_Cells_l1 (n m : Nat) (hn : n ≤ 100000) (hm : m ≤ 100000) (k : Int) (r : Int) (i : Nat) (hi : i ≤ n) (c : Nat) (hc : c ≤ 100000000000)
    (hr : Ev (fun K => tattingref15_Cells.l0 K n m k ((c + sumN (m + 1) (fun j => if apart i j + apart ((n : Int) - i) ((m : Int) - j) ≤ k then 1 else 0) : Nat) : Int) ((i : Int) + 1)) r) : ∀ (d j : Nat), j + d = m + 1 →
    Ev (fun K => tattingref15_Cells.l1 K n m k ((c + sumN j (fun j => if apart i j + apart ((n : Int) - i) ((m : Int) - j) ≤ k then 1 else 0) : Nat) : Int) i j) r := by
  intro d
  induction d with
  | zero =>
    intro j hj
    obtain rfl : j = m + 1 := by omega
    refine Ev.step (fun K => ?_) hr
    rw [tattingref15_Cells.l1, if_neg (by omega), wr (by omega) (by omega)]
  | succ d ih =>
    intro j hj
    have h := ih (j + 1) (by omega)
    have hb : sumN j (fun j => if apart i j + apart ((n : Int) - i) ((m : Int) - j) ≤ k then 1 else 0) ≤ sumN j fun _ => 1 := sumN_le fun _ _ => by split <;> omega
    rw [sumN_const] at hb
    refine Ev.step (fun K => ?_) h
    have ha : 0 ≤ apart i j ∧ apart i j ≤ 1000000 := by unfold apart; split <;> omega
    have ha' : 0 ≤ apart ((n : Int) - i) ((m : Int) - j) ∧ apart ((n : Int) - i) ((m : Int) - j) ≤ 1000000 := by unfold apart; split <;> omega
    rw [tattingref15_Cells.l1, if_pos (by omega), tattingref15_Apart_eq _ _ (by omega) (by omega), bs, wr (x := (n : Int) - i) (by omega) (by omega), wr (x := (m : Int) - j) (by omega) (by omega), tattingref15_Apart_eq _ _ (by omega) (by omega), bs, wr (by omega) (by omega), wr (x := (j : Int) + 1) (by omega) (by omega)]
    simp only [sumN]
    by_cases hle : apart i j + apart ((n : Int) - i) ((m : Int) - j) ≤ k
    · rw [if_pos hle, if_pos hle, wr (by omega) (by omega)]
      congr 1
    · rw [if_neg hle, if_neg hle]
      congr 1
theorem tattingref15_Cells_l0 (n m : Nat) (hn : n ≤ 100000) (hm : m ≤ 100000) (k : Int) : ∀ (d i : Nat), i + d = n + 1 →
    Ev (fun K => tattingref15_Cells.l0 K n m k ((sumN i (fun i => sumN (m + 1) (fun j => if apart i j + apart ((n : Int) - i) ((m : Int) - j) ≤ k then 1 else 0)) : Nat) : Int) i) ((cells n m k : Nat) : Int) := by
  intro d
  induction d with
  | zero =>
    intro i hi
    obtain rfl : i = n + 1 := by omega
    refine Ev.step (f := fun _ => some _) (fun K => ?_) (Ev.now _)
    rw [tattingref15_Cells.l0, if_neg (by omega)]
    rfl
  | succ d ih =>
    intro i hi
    have h := ih (i + 1) (by omega)
    have hb : sumN i (fun i => sumN (m + 1) (fun j => if apart i j + apart ((n : Int) - i) ((m : Int) - j) ≤ k then 1 else 0)) ≤ sumN i fun _ => sumN (m + 1) fun _ => 1 := sumN_le fun _ _ => sumN_le fun _ _ => by split <;> omega
    rw [sumN_const, sumN_const] at hb
    have hb' : i * ((m + 1) * 1) ≤ 100000 * 100001 := Nat.mul_le_mul (by omega) (by omega)
    have := tattingref15_Cells_l1 n m hn hm k _ i (by omega) (sumN i (fun i => sumN (m + 1) (fun j => if apart i j + apart ((n : Int) - i) ((m : Int) - j) ≤ k then 1 else 0))) (by omega) (by simpa [sumN] using h) (m + 1) 0 (by omega)
    refine Ev.step (fun K => ?_) this
    rw [tattingref15_Cells.l0, if_pos (by omega)]
    simp [sumN]
theorem tattingref15_Cells_eq (n m : Nat) (hn : n ≤ 100000) (hm : m ≤ 100000) (k : Int) (hk : 0 ≤ k) : Ev (fun K => tattingref15_Cells.f K n m k) ((cells n m k : Nat) : Int) := by
  have := tattingref15_Cells_l0 n m hn hm k (n + 1) 0 (by omega)
  refine Ev.step (fun K => ?_) this
  unfold tattingref15_Cells.f
  rw [if_neg (by omega), if_neg (by omega), if_neg (by omega), if_neg (by omega), decide_eq_false (by omega), tattingref15_Cells.j0, ift]
  rfl
theorem tattingref15_Cells_out (n m k : Int) (h : ¬ (0 ≤ n ∧ n ≤ 1048576 ∧ 0 ≤ m ∧ m ≤ 1048576 ∧ 0 ≤ k)) (K : Nat) (hK : 0 < K) : tattingref15_Cells.f K n m k = some 0 := by
  obtain ⟨K, rfl⟩ : ∃ q, K = q + 1 := ⟨K - 1, by omega⟩
  unfold tattingref15_Cells.f
  simp only [tattingref15_Cells.j0, itt]
  by_cases h1 : n < 0
  · rw [if_pos h1]; simp
  rw [if_neg h1]
  by_cases h2 : m < 0
  · rw [if_pos h2]; simp
  rw [if_neg h2]
  by_cases h3 : n > 1048576
  · rw [if_pos h3]; simp
  rw [if_neg h3]
  by_cases h4 : m > 1048576
  · rw [if_pos h4]; simp
  rw [if_neg h4, decide_eq_true (by omega), itt]

theorem awake_ev : ∃ K, tattinglaw19_awake.f K = some true := ⟨200, by decide +kernel⟩
theorem law_BandCells : tattinglaw19_BandCells.Pure := by
  intro n m k hn hm hk
  have hn := i64_wf hn
  have hm := i64_wf hm
  have hk := i64_wf hk
  have haw : Ev tattinglaw19_awake.f true := by
    obtain ⟨K, h⟩ := awake_ev
    exact Ev.of tattinglaw19_awake.mono h
  refine Ev.rounds (g := fun K => tattinglaw19_BandCells.f K n m k) ?_
  unfold tattinglaw19_BandCells.f
  refine Ev.bind haw ?_
  simp only [itt, ifT]
  have yes : Ev (fun K => tattinglaw19_BandCells.j0 K n m k true) true := by
    refine Ev.step (f := fun _ => some true) (fun K => ?_) (Ev.now _)
    rw [tattinglaw19_BandCells.j0, itt]
  have no : ¬ (40 < n ∧ n ≤ 1048576) → ¬ (40 < m ∧ m ≤ 1048576) → Ev (fun K => tattinglaw19_BandCells.j0 K n m k false) true := by
    intro h1 h2
    by_cases h : 0 ≤ n ∧ n ≤ 1048576 ∧ 0 ≤ m ∧ m ≤ 1048576 ∧ 0 ≤ k
    · obtain ⟨p, rfl⟩ := Int.eq_ofNat_of_zero_le h.1
      obtain ⟨q, rfl⟩ := Int.eq_ofNat_of_zero_le h.2.2.1
      obtain ⟨K1, e1⟩ := tattingref15_Cells_eq p q (by omega) (by omega) k h.2.2.2.2
      refine ⟨1000 + K1, fun K hK => ?_⟩
      obtain ⟨K, rfl⟩ : ∃ x, K = x + 1 := ⟨K - 1, by omega⟩
      have e2 : tattingref15_Cells.f K p q k = some _ := e1 K (by omega)
      have e3 := band_Cells_eq p q k (by omega) (by omega) h.2.2.2.2 (by omega) K (by omega)
      show tattinglaw19_BandCells.j0 (K + 1) p q k false = some true
      rw [tattinglaw19_BandCells.j0, ift, e3, bs, e2, bs, beq_self_eq_true]
    · refine ⟨2, fun K hK => ?_⟩
      obtain ⟨K, rfl⟩ : ∃ x, K = x + 1 := ⟨K - 1, by omega⟩
      show tattinglaw19_BandCells.j0 (K + 1) n m k false = some true
      rw [tattinglaw19_BandCells.j0, ift, band_Cells_out n m k h K (by omega), bs, tattingref15_Cells_out n m k h K (by omega), bs, beq_self_eq_true]
  by_cases h1 : n > 40
  · simp only [if_pos h1]
    by_cases h2 : n ≤ 1048576
    · simp only [if_pos h2]; exact yes
    · simp only [if_neg h2]
      by_cases h3 : m > 40
      · simp only [if_pos h3]
        by_cases h4 : m ≤ 1048576
        · rw [decide_eq_true h4]; exact yes
        · rw [decide_eq_false h4]; exact no (by omega) (by omega)
      · simp only [if_neg h3]; exact no (by omega) (by omega)
  · simp only [if_neg h1]
    by_cases h3 : m > 40
    · simp only [if_pos h3]
      by_cases h4 : m ≤ 1048576
      · rw [decide_eq_true h4]; exact yes
      · rw [decide_eq_false h4]; exact no (by omega) (by omega)
    · simp only [if_neg h3]; exact no (by omega) (by omega)

theorem BandCells : tattinglaw19_BandCells.Pure := law_BandCells

end Go.Proofs.Ytcjngbpmdmfbdaa.Pure
namespace Go.Proofs.Ytcjngbpmdmfbdaa.PrintWords
/-- The row's word under the name by which the row calls it. -/
abbrev sized_ints := @Go.Proofs.YtcjngbpmdmfbdaaW.PrintWords.sized_ints
end Go.Proofs.Ytcjngbpmdmfbdaa.PrintWords
