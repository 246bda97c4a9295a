/- There are at most so many places within a bound, a greater bound has no fewer, the greatest all: no condition beside the statement's own. -/
import Derived.Test.YtcjngbpmdmfbdaaPBandFewx3
import Derived.Test.YtcjngbpmdmfbdaaWSized
namespace Go.Proofs.Ytcjngbpmdmfbdaa.Pure
open Go.RowKit Go.Proofs.Ytcjngbpmdmfbdaa.PBandFew Go.Proofs.YtcjngbpmdmfbdaaW.PrintWords Go.Proofs.YtcjngbpmdmfbdaaW.PrintLast Go.Proofs.YtcjngbpmdmfbdaaW.PrintMore
set_option linter.unusedVariables false
set_option linter.unusedSimpArgs false

/-! Words for the pure side: whole numbers that do not wrap, reads of lists. -/
theorem wr {x : Int} (h : -9223372036854775808 ≤ x) (h' : x < 9223372036854775808) : wrap64 x = x := by unfold wrap64; omega
theorem rd_nat (xs : List Int) (n : Nat) : rd xs (n : Int) = xs.getD n 0 := rfl
theorem rd_at {xs : List Int} {i : Int} {n : Nat} (h : i = (n : Int)) : rd xs i = xs.getD n 0 := by subst h; rfl
theorem drop_getD {xs : List Int} {i : Nat} (h : i < xs.length) : xs.drop i = xs.getD i 0 :: xs.drop (i + 1) := by
  rw [List.drop_eq_getElem_cons h]; simp [List.getD_eq_getElem?_getD, h]
theorem take_getD {xs : List Int} {i : Nat} (h : i < xs.length) : xs.take (i + 1) = xs.take i ++ [xs.getD i 0] := by
  rw [List.take_succ_eq_append_getElem h]; simp [List.getD_eq_getElem?_getD, h]

theorem lz_bind {α β : Type} {a a' : Option α} {f : α → Option β} (h : a = a') : a.bind f = a'.bind f := by rw [h]
theorem lz_ite {α : Type} {c c' : Prop} [s : Decidable c] [s' : Decidable c'] {t e : α} (h : c = c') : ite c t e = ite c' t e := by
  subst h; rw [Subsingleton.elim s s']
attribute [local congr] lz_bind lz_ite
theorem bs {α β : Type} (a : α) (f : α → Option β) : (some a).bind f = f a := by simp
theorem itt {α : Type} (t e : α) : (if (true = true) then t else e) = t := by simp
theorem ift {α : Type} (t e : α) : (if (false = true) then t else e) = e := by simp
theorem ifT {α : Type} (t e : α) : (if True then t else e) = t := by simp
theorem ifF {α : Type} (t e : α) : (if False then t else e) = e := by simp

theorem u8_wf {x : Int} (h : (Lit.int .u8 x).wf = true) : 0 ≤ x ∧ x < 256 := by
  have h' := h
  simp only [Lit.wf, Bool.and_eq_true, decide_eq_true_eq] at h'
  have e1 : IntKind.u8.min = 0 := by rfl
  have e2 : IntKind.u8.max = 255 := by rfl
  rw [e1, e2] at h'
  omega
theorem i64_wf {x : Int} (h : (Lit.int .i64 x).wf = true) : -9223372036854775808 ≤ x ∧ x < 9223372036854775808 := by
  have h' := h
  simp only [Lit.wf, Bool.and_eq_true, decide_eq_true_eq] at h'
  have e1 : IntKind.i64.min = -9223372036854775808 := by decide
  have e2 : IntKind.i64.max = 9223372036854775807 := by decide
  rw [e1, e2] at h'
  omega
theorem tmod_nat (x n : Nat) : Int.tmod (x : Int) (n : Int) = ((x % n : Nat) : Int) := by
  rw [Int.tmod_eq_emod_of_nonneg (by omega)]; exact (Int.natCast_emod _ _).symm
/-- A number within a list's places and its end. -/
theorem place (x : Int) (n : Nat) (h : 0 ≤ x ∧ x < 256) (hn : n ≤ 1000000) : ∃ p : Nat, p ≤ n ∧ Int.tmod (wrap64 x) (wrap64 ((n : Int) + 1)) = p := by
  obtain ⟨y, rfl⟩ := Int.eq_ofNat_of_zero_le h.1
  rw [wr (by omega) (by omega), wr (by omega) (by omega)]
  refine ⟨y % (n + 1), by have := Nat.mod_lt y (show 0 < n + 1 by omega); omega, ?_⟩
  have := tmod_nat y (n + 1)
  simpa using this

/-! Sums of the first so many numbers. -/
def sumN : Nat → (Nat → Nat) → Nat
  | 0, _ => 0
  | n + 1, f => sumN n f + f n
theorem sumN_congr {n : Nat} {f g : Nat → Nat} (h : ∀ i, i < n → f i = g i) : sumN n f = sumN n g := by
  induction n with
  | zero => rfl
  | succ n ih => simp only [sumN]; rw [ih (fun i hi => h i (by omega)), h n (by omega)]
theorem sumN_add (n : Nat) (f g : Nat → Nat) : sumN n (fun i => f i + g i) = sumN n f + sumN n g := by
  induction n with
  | zero => rfl
  | succ n ih => simp only [sumN]; omega
theorem sumN_zero (n : Nat) : sumN n (fun _ => 0) = 0 := by
  induction n with
  | zero => rfl
  | succ n ih => simp only [sumN]; omega
theorem sumN_le {n : Nat} {f g : Nat → Nat} (h : ∀ i, i < n → f i ≤ g i) : sumN n f ≤ sumN n g := by
  induction n with
  | zero => exact Nat.le_refl _
  | succ n ih => simp only [sumN]; have := ih (fun i hi => h i (by omega)); have := h n (by omega); omega
theorem sumN_const (n c : Nat) : sumN n (fun _ => c) = n * c := by
  induction n with
  | zero => simp [sumN]
  | succ n ih => simp only [sumN]; rw [ih, Nat.succ_mul]
theorem sumN_comm (n m : Nat) (f : Nat → Nat → Nat) : sumN n (fun i => sumN m fun j => f i j) = sumN m (fun j => sumN n fun i => f i j) := by
  induction n with
  | zero => simp only [sumN]; rw [sumN_zero]
  | succ n ih => simp only [sumN]; rw [ih, sumN_add]
theorem sumN_interval (n : Nat) (a b : Int) : ((sumN n (fun i => if a ≤ (i : Int) ∧ (i : Int) ≤ b then 1 else 0) : Nat) : Int) = max 0 (min ((n : Int) - 1) b - max 0 a + 1) := by
  induction n with
  | zero => simp only [sumN]; omega
  | succ n ih =>
    simp only [sumN]
    by_cases h : a ≤ (n : Int) ∧ (n : Int) ≤ b
    · rw [if_pos h]; omega
    · rw [if_neg h]; omega
/-- The points of the grid on diagonal d. -/
def onDiag (n m : Nat) (d : Int) : Nat := sumN (n + 1) fun i => sumN (m + 1) fun j => if (i : Int) - (j : Int) = d then 1 else 0
theorem onDiag_eq (n m : Nat) (d : Int) (h1 : -(m : Int) ≤ d) (h2 : d ≤ n) : ((onDiag n m d : Nat) : Int) = min (m : Int) (n - d) - max 0 (-d) + 1 := by
  unfold onDiag
  have e : (sumN (n + 1) fun i => sumN (m + 1) fun j => if (i : Int) - (j : Int) = d then 1 else 0) = sumN (n + 1) fun i => if d ≤ (i : Int) ∧ (i : Int) ≤ m + d then 1 else 0 := by
    refine sumN_congr fun i hi => ?_
    have h3 := sumN_interval (m + 1) ((i : Int) - d) ((i : Int) - d)
    have h4 : (sumN (m + 1) fun j => if (i : Int) - (j : Int) = d then 1 else 0) = sumN (m + 1) (fun j => if (i : Int) - d ≤ (j : Int) ∧ (j : Int) ≤ (i : Int) - d then 1 else 0) := by
      refine sumN_congr fun j hj => ?_
      by_cases h : (i : Int) - (j : Int) = d
      · rw [if_pos h, if_pos (by omega)]
      · rw [if_neg h, if_neg (by omega)]
    rw [h4]
    split <;> omega
  rw [e]
  have := sumN_interval (n + 1) d (m + d)
  omega
def band (n m : Nat) (lo hi : Int) : Nat := sumN (n + 1) fun i => sumN (m + 1) fun j => if lo ≤ (i : Int) - (j : Int) ∧ (i : Int) - (j : Int) ≤ hi then 1 else 0
theorem band_empty (n m : Nat) (lo hi : Int) (h : hi < lo) : band n m lo hi = 0 := by
  unfold band
  rw [sumN_congr (g := fun _ => 0) (fun i _ => ?_), sumN_zero]
  rw [sumN_congr (g := fun _ => 0) (fun j _ => ?_), sumN_zero]
  rw [if_neg (by omega)]
theorem band_step (n m : Nat) (lo hi : Int) (h : lo ≤ hi + 1) : band n m lo (hi + 1) = band n m lo hi + onDiag n m (hi + 1) := by
  unfold band onDiag
  rw [← sumN_add]
  refine sumN_congr fun i _ => ?_
  rw [← sumN_add]
  refine sumN_congr fun j _ => ?_
  by_cases h1 : lo ≤ (i : Int) - (j : Int) ∧ (i : Int) - (j : Int) ≤ hi
  · rw [if_pos h1, if_pos (by omega), if_neg (by omega)]
  · rw [if_neg h1]
    by_cases h2 : (i : Int) - (j : Int) = hi + 1
    · rw [if_pos (by omega), if_pos h2]
    · rw [if_neg (by omega), if_neg h2]
theorem band_le (n m : Nat) (lo hi : Int) : band n m lo hi ≤ (n + 1) * (m + 1) := by
  have : band n m lo hi ≤ sumN (n + 1) fun _ => sumN (m + 1) fun _ => 1 := by
    unfold band
    refine sumN_le fun i _ => sumN_le fun j _ => ?_
    split <;> omega
  rw [sumN_const, sumN_const] at this
  simpa using this
def apart (x y : Int) : Int := if x > y then x - y else y - x
/-- The points that are not too far from the middle. -/
def cells (n m : Nat) (k : Int) : Nat := sumN (n + 1) fun i => sumN (m + 1) fun j => if apart i j + apart ((n : Int) - i) ((m : Int) - j) ≤ k then 1 else 0
def bandLo (n m : Nat) (k : Int) : Int := max (-(m : Int)) (min 0 ((n : Int) - m) - min ((k - max ((n : Int) - m) ((m : Int) - n)) / 2) m)
def bandHi (n m : Nat) (k : Int) : Int := min (n : Int) (max 0 ((n : Int) - m) + min ((k - max ((n : Int) - m) ((m : Int) - n)) / 2) n)
theorem cells_none (n m : Nat) (k : Int) (h : k < max ((n : Int) - m) ((m : Int) - n)) : cells n m k = 0 := by
  unfold cells
  rw [sumN_congr (g := fun _ => 0) (fun i _ => ?_), sumN_zero]
  rw [sumN_congr (g := fun _ => 0) (fun j _ => ?_), sumN_zero]
  rw [if_neg]
  unfold apart
  split <;> split <;> omega
theorem cells_band (n m : Nat) (k : Int) (h : max ((n : Int) - m) ((m : Int) - n) ≤ k) : cells n m k = band n m (bandLo n m k) (bandHi n m k) := by
  unfold cells band bandLo bandHi
  refine sumN_congr fun i hi => sumN_congr fun j hj => ?_
  have e : (apart i j + apart ((n : Int) - i) ((m : Int) - j) ≤ k) ↔ (max (-(m : Int)) (min 0 ((n : Int) - m) - min ((k - max ((n : Int) - m) ((m : Int) - n)) / 2) m) ≤ (i : Int) - j ∧ (i : Int) - j ≤ min (n : Int) (max 0 ((n : Int) - m) + min ((k - max ((n : Int) - m) ((m : Int) - n)) / 2) n)) := by
    unfold apart
    split <;> split <;> omega
  by_cases c : apart i j + apart ((n : Int) - i) ((m : Int) - j) ≤ k
  · rw [if_pos c, if_pos (e.1 c)]
  · rw [if_neg c, if_neg (fun h => c (e.2 h))]

theorem mx_max (a b : Int) : mx a b = max a b := by unfold mx; omega
theorem mn_min (a b : Int) : mn a b = min a b := by unfold mn; omega
theorem band_is_eq (a : Int) : band_is.f a = some (decide (0 ≤ a ∧ a ≤ 1048576)) := by
  unfold band_is.f
  by_cases h1 : 0 ≤ a <;> by_cases h2 : a ≤ 1048576 <;> simp [h1, h2]
theorem band_edges_none (n m : Nat) (k : Int) (hn : n ≤ 1048576) (hm : m ≤ 1048576) (h : k < max ((n : Int) - m) ((m : Int) - n)) : band_edges.f n m k = some (0, 0, false) := by
  unfold band_edges.f
  simp (disch := omega) only [wr, mx_max]
  rw [if_pos (by omega)]
theorem band_edges_some (n m : Nat) (k : Int) (hn : n ≤ 1048576) (hm : m ≤ 1048576) (hk : k < 9223372036854775808) (h : max ((n : Int) - m) ((m : Int) - n) ≤ k) : band_edges.f n m k = some (bandLo n m k, bandHi n m k, true) := by
  unfold band_edges.f bandLo bandHi
  have e1 : -((n : Int) - m) = (m : Int) - n := by omega
  have e2 : ∀ x : Int, 0 ≤ x → Int.tdiv x 2 = x / 2 := fun x hx => Int.tdiv_eq_ediv_of_nonneg hx
  rw [wr (x := (n : Int) - m) (by omega) (by omega), wr (x := -((n : Int) - m)) (by omega) (by omega), e1]
  simp only [mx_max, mn_min]
  rw [if_neg (by omega), wr (x := k - max ((n : Int) - m) ((m : Int) - n)) (by omega) (by omega), e2 _ (by omega), wr (x := (k - max ((n : Int) - m) ((m : Int) - n)) / 2) (by omega) (by omega)]
  rw [wr (x := -(m : Int)) (by omega) (by omega), wr (by omega) (by omega), wr (by omega) (by omega)]
theorem band_Cells_l0 (n m : Nat) (hn : n ≤ 100000) (hm : m ≤ 100000) (lo hi : Int) (h1 : -(m : Int) ≤ lo) (h2 : hi ≤ n) : ∀ (e : Nat) (d : Int), lo ≤ d → d + e = max (hi + 1) lo → ∀ k, e < k →
    band_Cells.l0 k n m hi (band n m lo (d - 1)) d = some ((band n m lo hi : Nat) : Int) := by
  have hb : ∀ x, ((band n m lo x : Nat) : Int) ≤ 100001 * 100001 := fun x => by
    have h := band_le n m lo x
    have h' : (n + 1) * (m + 1) ≤ 100001 * 100001 := Nat.mul_le_mul (by omega) (by omega)
    omega
  intro e
  induction e with
  | zero =>
    intro d hd he k hk
    obtain ⟨k, rfl⟩ : ∃ q, k = q + 1 := ⟨k - 1, by omega⟩
    rw [band_Cells.l0, if_neg (by omega)]
    by_cases c : hi + 1 ≤ lo
    · rw [band_empty n m lo (d - 1) (by omega), band_empty n m lo hi (by omega)]
    · rw [show d - 1 = hi by omega]
  | succ e ih =>
    intro d hd he k hk
    obtain ⟨k, rfl⟩ : ∃ q, k = q + 1 := ⟨k - 1, by omega⟩
    rw [band_Cells.l0, if_pos (by omega)]
    have hs := band_step n m lo (d - 1) (by omega)
    rw [show d - 1 + 1 = d by omega] at hs
    have ho := onDiag_eq n m d (by omega) (by omega)
    have hbd := hb (d - 1)
    have h4 := ih (d + 1) (by omega) (by omega) k (by omega)
    rw [show d + 1 - 1 = d by omega, hs] at h4
    simp only [mx_max, mn_min]
    rw [wr (x := (n : Int) - d) (by omega) (by omega), wr (x := -d) (by omega) (by omega), wr (x := min (m : Int) ((n : Int) - d) - max 0 (-d)) (by omega) (by omega), wr (x := min (m : Int) ((n : Int) - d) - max 0 (-d) + 1) (by omega) (by omega), wr (x := d + 1) (by omega) (by omega), wr (by omega) (by omega), ← ho]
    exact_mod_cast h4
theorem band_edges_in (n m : Nat) (k : Int) (h : max ((n : Int) - m) ((m : Int) - n) ≤ k) : -(m : Int) ≤ bandLo n m k ∧ bandHi n m k ≤ n ∧ bandLo n m k ≤ bandHi n m k ∧ bandHi n m k - bandLo n m k ≤ k := by
  unfold bandLo bandHi; omega
theorem band_Cells_out (n m k : Int) (h : ¬ (0 ≤ n ∧ n ≤ 1048576 ∧ 0 ≤ m ∧ m ≤ 1048576 ∧ 0 ≤ k)) (K : Nat) (hK : 0 < K) : band_Cells.f K n m k = some 0 := by
  obtain ⟨K, rfl⟩ : ∃ q, K = q + 1 := ⟨K - 1, by omega⟩
  unfold band_Cells.f
  rw [band_is_eq, bs]
  by_cases h1 : 0 ≤ n ∧ n ≤ 1048576
  · rw [decide_eq_true h1, itt, band_is_eq, bs]
    by_cases h2 : 0 ≤ m ∧ m ≤ 1048576
    · rw [decide_eq_true h2, itt, decide_eq_true (by omega), band_Cells.j0, itt]
    · rw [decide_eq_false h2, ift, band_Cells.j0, itt]
  · rw [decide_eq_false h1, ift, band_Cells.j0, itt]
theorem band_Cells_eq (n m : Nat) (k : Int) (hn : n ≤ 100000) (hm : m ≤ 100000) (h0 : 0 ≤ k) (hk : k < 9223372036854775808) (K : Nat) (hK : n + m + 3 < K) : band_Cells.f K n m k = some ((cells n m k : Nat) : Int) := by
  obtain ⟨K, rfl⟩ : ∃ q, K = q + 1 := ⟨K - 1, by omega⟩
  unfold band_Cells.f
  rw [band_is_eq, bs, decide_eq_true (by omega), itt, band_is_eq, bs, decide_eq_true (by omega), itt, decide_eq_false (by omega), band_Cells.j0, ift]
  by_cases h : max ((n : Int) - m) ((m : Int) - n) ≤ k
  · obtain ⟨e1, e2, e3, e4⟩ := band_edges_in n m k h
    rw [band_edges_some n m k (by omega) (by omega) hk h, bs, itt, cells_band n m k h]
    have := band_Cells_l0 n m hn hm (bandLo n m k) (bandHi n m k) e1 e2 (bandHi n m k + 1 - bandLo n m k).toNat (bandLo n m k) (by omega) (by omega) K (by omega)
    rw [band_empty n m _ (bandLo n m k - 1) (by omega)] at this
    exact this
  · rw [band_edges_none n m k (by omega) (by omega) (by omega), bs, ift, cells_none n m k (by omega)]; rfl

theorem cells_mono (n m : Nat) {k k' : Int} (h : k ≤ k') : cells n m k ≤ cells n m k' := by
  unfold cells
  refine sumN_le fun i _ => sumN_le fun j _ => ?_
  split <;> split <;> omega
theorem apart_comm (x y : Int) : apart x y = apart y x := by unfold apart; split <;> split <;> omega
theorem cells_comm (n m : Nat) (k : Int) : cells n m k = cells m n k := by
  unfold cells
  rw [sumN_comm]
  refine sumN_congr fun i _ => sumN_congr fun j _ => ?_
  rw [apart_comm (j : Int) i, apart_comm ((n : Int) - j)]
theorem cells_all (n m : Nat) : cells n m ((n : Int) + m) = (n + 1) * (m + 1) := by
  have : cells n m ((n : Int) + m) = sumN (n + 1) fun _ => sumN (m + 1) fun _ => 1 := by
    unfold cells
    refine sumN_congr fun i hi => sumN_congr fun j hj => ?_
    rw [if_pos]
    unfold apart
    split <;> split <;> omega
  rw [this, sumN_const, sumN_const]; simp
theorem band_few (n m : Nat) (lo : Int) (h1 : -(m : Int) ≤ lo) : ∀ t : Nat, lo + t - 1 ≤ n → band n m lo (lo + t - 1) ≤ t * (min n m + 1)
  | 0, _ => by rw [band_empty n m _ _ (by omega)]; omega
  | t + 1, h => by
    have ih := band_few n m lo h1 t (by omega)
    have hs := band_step n m lo (lo + t - 1) (by omega)
    have ho := onDiag_eq n m (lo + t - 1 + 1) (by omega) (by omega)
    rw [show lo + ((t + 1 : Nat) : Int) - 1 = lo + t - 1 + 1 by omega, hs, Nat.succ_mul]
    omega
theorem cells_few (n m : Nat) (z : Nat) : cells n m z ≤ (z + 1) * (min n m + 1) := by
  by_cases h : max ((n : Int) - m) ((m : Int) - n) ≤ z
  · obtain ⟨e1, e2, e3, e4⟩ := band_edges_in n m z h
    rw [cells_band n m z h]
    have := band_few n m (bandLo n m z) e1 (bandHi n m z - bandLo n m z + 1).toNat (by omega)
    rw [show bandLo n m z + ((bandHi n m z - bandLo n m z + 1).toNat : Int) - 1 = bandHi n m z by omega] at this
    refine Nat.le_trans this (Nat.mul_le_mul_right _ (by omega))
  · rw [cells_none n m z (by omega)]; exact Nat.zero_le _

theorem awake_200 : tattinglaw19_awake.f 400 = some true := by decide +kernel
theorem few_any (n m z : Nat) (hn : n ≤ 60) (hm : m ≤ 60) (hz : z < 256) (K : Nat) (hK : 400 ≤ K) (a0 a1 a2 : Int) (h0 : Int.tmod (wrap64 a0) 61 = n) (h1 : Int.tmod (wrap64 a1) 61 = m) (h2 : wrap64 a2 = z) (haw : tattinglaw19_awake.f K = some true) : tattinglaw19_BandFew.f K a0 a1 a2 = some true := by
  unfold tattinglaw19_BandFew.f
  rw [haw, bs, itt, h0, h1, h2]
  have c1 := cells_few n m z
  have c2 := cells_mono n m (k := (z : Int)) (k' := (z : Int) + 1) (by omega)
  have c3 := cells_comm n m z
  have c4 := cells_all n m
  have b1 : (z + 1) * (min n m + 1) ≤ 256 * 61 := Nat.mul_le_mul (by omega) (by omega)
  have b2 : (n + 1) * (m + 1) ≤ 61 * 61 := Nat.mul_le_mul (by omega) (by omega)
  have p1 : ((z : Int) + 1) * ((min n m : Nat) + 1 : Int) = (((z + 1) * (min n m + 1) : Nat) : Int) := by push_cast; rfl
  have p2 : ((n : Int) + 1) * ((m : Int) + 1) = (((n + 1) * (m + 1) : Nat) : Int) := by push_cast; rfl
  have e1 := band_Cells_eq n m z (by omega) (by omega) (by omega) (by omega) K (by omega)
  have e2 := band_Cells_eq n m ((z : Int) + 1) (by omega) (by omega) (by omega) (by omega) K (by omega)
  have e3 := band_Cells_eq m n z (by omega) (by omega) (by omega) (by omega) K (by omega)
  have e4 := band_Cells_eq n m ((n : Int) + m) (by omega) (by omega) (by omega) (by omega) K (by omega)
  have em : mn (n : Int) (m : Int) = ((min n m : Nat) : Int) := by unfold mn; omega
  rw [wr (x := (z : Int) + 1) (by omega) (by omega), wr (x := (n : Int) + m) (by omega) (by omega), wr (x := (n : Int) + 1) (by omega) (by omega), wr (x := (m : Int) + 1) (by omega) (by omega), em, wr (x := ((min n m : Nat) : Int) + 1) (by omega) (by omega), p1, p2, wr (x := (((z + 1) * (min n m + 1) : Nat) : Int)) (by omega) (by omega), wr (x := (((n + 1) * (m + 1) : Nat) : Int)) (by omega) (by omega)]
  rw [e1, bs, if_pos (by omega), if_pos (by omega), e2, bs, if_pos (by omega), e3, bs, bs, c3, if_pos rfl, e4, bs, c4, beq_self_eq_true]
theorem law_BandFew : tattinglaw19_BandFew.Pure := by
  intro a0 a1 a2 h0 h1 h2
  have h0 := u8_wf h0
  have h1 := u8_wf h1
  have h2 := u8_wf h2
  obtain ⟨x, rfl⟩ := Int.eq_ofNat_of_zero_le h0.1
  obtain ⟨y, rfl⟩ := Int.eq_ofNat_of_zero_le h1.1
  obtain ⟨z, rfl⟩ := Int.eq_ofNat_of_zero_le h2.1
  have t1 := tmod_nat x 61
  have t2 := tmod_nat y 61
  exact ⟨400, few_any (x % 61) (y % 61) z (by omega) (by omega) (by omega) 400 (by omega) _ _ _ (by rw [wr (by omega) (by omega)]; exact t1) (by rw [wr (by omega) (by omega)]; exact t2) (wr (by omega) (by omega)) awake_200⟩

theorem BandFew : tattinglaw19_BandFew.Pure := law_BandFew

end Go.Proofs.Ytcjngbpmdmfbdaa.Pure
namespace Go.Proofs.Ytcjngbpmdmfbdaa.PrintWords
/-- The row's word under the name by which the row calls it. -/
abbrev sized_ints := @Go.Proofs.YtcjngbpmdmfbdaaW.PrintWords.sized_ints
end Go.Proofs.Ytcjngbpmdmfbdaa.PrintWords
