/- What the counters' inner functions of the given program come to: each under the facts that the cells hold numbers and may be written. -/
import Derived.Test.YtnpjdegdojkffaaRows
import Derived.WalkKit
import Derived.Tactics
import Derived.Tactics2
import Derived.Laws.Pointers
import Derived.Laws.LoneSync
import Derived.RegionTactic
import Derived.Outline
import Derived.Maps.AppendAt
import Derived.Lib.Hide
import Derived.IntWalk
import Derived.Deep.Draws
import Derived.Deep.QuietTactic
import Derived.BigQuiet
import Derived.Laws.Rows
import Derived.Laws.AppendOwn
import Derived.Below
namespace Go.Proofs.Ytnpjdegdojkffaa
open Go.RowKit

theorem add_at (a : Addr) (x d : Int) (w : World) (h0 : w.cell? a = some (.int .i64 x)) (f0 : w.frozen? a = false) :
    Calls Try.prog 14 #[.pointer (some a), .int .i64 d] w fun e w' => e = .returned (.int .i64 (wrap64 (x + d))) ∧ w' = w.setCell a (.int .i64 (wrap64 (x + d))) := by
  have hadd := run_call_add (P := Try.prog) Try.func17 (by kernel_rfl) (by kernel_rfl) (by kernel_rfl) .i64 (by kernel_rfl) (y := d) (s := wrap64 (x + d)) h0 f0 (by simp [go_sem]; exact IntWalk.i64_left _)
  go_enter Try.func14, Try.ntmps14
  go_wp2
  go_ret
  exact ⟨rfl, rfl⟩
theorem load_at (a : Addr) (x : Int) (w : World) (h0 : w.cell? a = some (.int .i64 x)) :
    Calls Try.prog 15 #[.pointer (some a)] w fun e w' => e = .returned (.int .i64 x) ∧ w' = w := by
  have hl := run_call_load (P := Try.prog) Try.func18 (by kernel_rfl) (by kernel_rfl) (by kernel_rfl) .i64 (by kernel_rfl) h0
  go_enter Try.func15, Try.ntmps15
  go_wp2
  go_ret
  exact ⟨rfl, rfl⟩
theorem store_at (a : Addr) (x d : Int) (w : World) (h0 : w.cell? a = some (.int .i64 x)) (f0 : w.frozen? a = false) :
    Calls Try.prog 16 #[.pointer (some a), .int .i64 d] w fun e w' => e = .returned (.tuple #[]) ∧ w' = w.setCell a (.int .i64 d) := by
  have hl := run_call_store (P := Try.prog) Try.func19 (by kernel_rfl) (by kernel_rfl) (by kernel_rfl) (by kernel_rfl) (k := .i64) (y := d) h0 f0
  go_enter Try.func16, Try.ntmps16
  go_wp2
  go_end0
  exact ⟨rfl, rfl⟩
theorem is_yes (n : Int) (w : World) (h1 : 1 ≤ n) (h2 : n ≤ 8) : Calls Try.prog 13 #[.int .i64 n] w fun e w' => e = .returned (.bool true) ∧ w = w' := by
  go_enter Try.func13, Try.ntmps13
  go_wp2
  go_ret
  exact ⟨rfl, rfl⟩
theorem is_no (n : Int) (w : World) (h : n < 1 ∨ 8 < n) : Calls Try.prog 13 #[.int .i64 n] w fun e w' => e = .returned (.bool false) ∧ w = w' := by
  rcases h with h | h
  · go_enter Try.func13, Try.ntmps13
    go_wp2
    go_ret
    exact ⟨rfl, rfl⟩
  · have h1 : 1 ≤ n := by omega
    have hd : decide (n ≤ 8) = false := decide_eq_false (by omega)
    go_enter Try.func13, Try.ntmps13
    go_wp2
    go_ret
    exact ⟨rfl, rfl⟩

/-- The block b holds a meter whose sixteen numbers are cs. -/
def nums (cs : List Int) : Array Value := (cs.map (Value.int .i64)).toArray
structure Mt (w : World) (b : Nat) (cs : List Int) : Prop where
  len : cs.length = 16
  blk : w.heap[b]? = some (.cells (nums cs) 42 (0, 0))
theorem Mt.cell {w : World} {b : Nat} {cs : List Int} (h : Mt w b cs) (j : Nat) (hj : j < 16) : w.cell? ⟨b, j, none⟩ = some (.int .i64 (cs.getD j 0)) := by
  have hl := h.len
  simp [World.cell?, h.blk, nums, List.getElem?_eq_getElem (show j < cs.length by omega)]
theorem Mt.free {w : World} {b : Nat} {cs : List Int} (h : Mt w b cs) (j : Nat) : w.frozen? ⟨b, j, none⟩ = false := by
  simp [World.frozen?, h.blk]
theorem Mt.lt {w : World} {b : Nat} {cs : List Int} (h : Mt w b cs) : b < w.heap.size := (Array.getElem?_eq_some_iff.1 h.blk).1
theorem Mt.set {w : World} {b : Nat} {cs : List Int} (h : Mt w b cs) (j : Nat) (x : Int) : Mt (w.setCell ⟨b, j, none⟩ (.int .i64 x)) b (cs.set j x) := by
  refine ⟨by simp [h.len], ?_⟩
  have hs : nums (cs.set j x) = (nums cs).setIfInBounds j (.int .i64 x) := by simp [nums, List.map_set]
  rw [hs]
  exact heap_setCell_same w b j _ 42 _ h.blk
theorem Mt.keep {w w1 : World} {b : Nat} {cs : List Int} (h : Mt w b cs) {row : Option Nat} (hg : w.grownBy w1 row) (hr : some b ≠ row) : Mt w1 b cs := ⟨h.len, (hg.block b h.lt hr).trans h.blk⟩
theorem Mt.drew {w : World} {b : Nat} {cs : List Int} (h : Mt w b cs) (n : Nat) : Mt (w.drewN n) b cs := ⟨h.len, h.blk⟩
theorem grown_set (w : World) (b j : Nat) (v : Value) : w.grownBy (w.setCell ⟨b, j, none⟩ v) (some b) := ⟨rfl, rfl, rfl, by simp [World.setCell], fun k _ hk => Below.heap_setCell w ⟨b, j, none⟩ v k (fun e => hk (by rw [e]))⟩
theorem grown_drew (w : World) (n : Nat) (r : Option Nat) : w.grownBy (w.drewN n) r := ⟨rfl, rfl, rfl, Nat.le_refl _, fun _ _ _ => rfl⟩

def may (e s : Int) : Bool := decide (1 ≤ e) && decide (e ≤ 8) && decide (0 ≤ s)
def added (cs : List Int) (e s : Int) : List Int :=
  if may e s = true then (cs.set (e - 1).toNat (wrap64 (cs.getD (e - 1).toNat 0 + s))).set (8 + (e - 1).toNat) (wrap64 (cs.getD (8 + (e - 1).toNat) 0 + 1)) else cs
def okOf (e s : Int) : Int := if may e s = true then 0 else 1
theorem add_yes (b : Nat) (cs : List Int) (e s : Int) (w : World) (h : Mt w b cs) (hm : may e s = true) :
    Calls Try.prog 8 #[.pointer (some ⟨b, 0, none⟩), .int .i64 e, .int .i64 s] w fun r w' => r = .returned (.int .i64 0) ∧ Mt w' b (added cs e s) ∧ w.grownBy w' (some b) := by
  have h1 : 1 ≤ e := by simp [may] at hm; omega
  have h2 : e ≤ 8 := by simp [may] at hm; omega
  have h3 : 0 ≤ s := by simp [may] at hm; omega
  have h4 : decide (s < 0) = false := decide_eq_false (by omega)
  obtain ⟨n, rfl⟩ : ∃ n : Nat, e = (n : Int) + 1 := ⟨(e - 1).toNat, by omega⟩
  have hn : n < 8 := by omega
  have hlen := h.len
  obtain ⟨x, hxe⟩ : ∃ x, x = cs.getD n 0 := ⟨_, rfl⟩
  obtain ⟨y, hye⟩ : ∃ y, y = cs.getD (8 + n) 0 := ⟨_, rfl⟩
  have hx := h.cell n (by omega)
  rw [← hxe] at hx
  have hxf := h.free n
  have g := h.set n (wrap64 (x + s))
  have hy := g.cell (8 + n) (by omega)
  have hy2 : (cs.set n (wrap64 (x + s))).getD (8 + n) 0 = y := by rw [hye]; simp
  rw [hy2] at hy
  have hyf := g.free (8 + n)
  have g2 := g.set (8 + n) (wrap64 (y + 1))
  have ha : added cs ((n : Int) + 1) s = (cs.set n (wrap64 (x + s))).set (8 + n) (wrap64 (y + 1)) := by
    unfold added
    rw [if_pos hm, show ((n : Int) + 1 - 1).toNat = n by omega, ← hxe, ← hye]
  rw [← ha] at g2
  have G := Lib.hid g2
  clear g g2 hxe hye hy2 ha hm
  go_enter Try.func8, Try.ntmps8
  go_wp2_with (first | (go_at_call 13; refine (is_yes _ _ h1 h2).mono ?_; rintro e w' ⟨rfl, rfl⟩) | (go_at_call 14; (with_reducible refine (add_at ⟨b, n, none⟩ x s _ hx hxf).mono ?_); rintro e w' ⟨rfl, rfl⟩) | (go_at_call 14; (with_reducible refine (add_at ⟨b, 8 + n, none⟩ y 1 _ hy hyf).mono ?_); rintro e w' ⟨rfl, rfl⟩))
  go_ret
  exact ⟨rfl, G.out, (grown_set _ _ _ _).trans (grown_set _ _ _ _)⟩
theorem add_no (b : Nat) (e s : Int) (w : World) (hm : may e s = false) :
    Calls Try.prog 8 #[.pointer (some ⟨b, 0, none⟩), .int .i64 e, .int .i64 s] w fun r w' => r = .returned (.int .i64 1) ∧ w = w' := by
  by_cases h1 : 1 ≤ e ∧ e ≤ 8
  · have h3 : s < 0 := by simp [may] at hm; omega
    obtain ⟨h1, h2⟩ := h1
    go_enter Try.func8, Try.ntmps8
    go_wp2_with (first | (go_at_call 13; refine (is_yes _ _ h1 h2).mono ?_; rintro e w' ⟨rfl, rfl⟩))
    go_ret
    exact ⟨rfl, rfl⟩
  · have h2 : e < 1 ∨ 8 < e := by omega
    go_enter Try.func8, Try.ntmps8
    go_wp2_with (first | (go_at_call 13; refine (is_no _ _ h2).mono ?_; rintro e w' ⟨rfl, rfl⟩))
    go_ret
    exact ⟨rfl, rfl⟩
/-- (*Meter).Add: what is told, and what the meter then holds. -/
theorem add_any (b : Nat) (cs : List Int) (e s : Int) (w : World) (h : Mt w b cs) :
    Calls Try.prog 8 #[.pointer (some ⟨b, 0, none⟩), .int .i64 e, .int .i64 s] w fun r w' => r = .returned (.int .i64 (okOf e s)) ∧ Mt w' b (added cs e s) ∧ w.grownBy w' (some b) := by
  cases hm : may e s with
  | true =>
    refine (add_yes b cs e s w h hm).mono ?_
    rintro r w' ⟨rfl, h2⟩
    exact ⟨by unfold okOf; rw [if_pos hm], h2⟩
  | false =>
    refine (add_no b e s w hm).mono ?_
    rintro r w' ⟨rfl, rfl⟩
    refine ⟨by unfold okOf; rw [hm]; rfl, ?_, World.grownBy.refl w _⟩
    have : added cs e s = cs := by unfold added; rw [hm]; rfl
    rw [this]
    exact h
def entry (cs : List Int) (o : Nat) (e : Int) : Int := if 1 ≤ e ∧ e ≤ 8 then cs.getD (o + (e - 1).toNat) 0 else 0
theorem steps_any (b : Nat) (cs : List Int) (e : Int) (w : World) (h : Mt w b cs) :
    Calls Try.prog 9 #[.pointer (some ⟨b, 0, none⟩), .int .i64 e] w fun r w' => r = .returned (.int .i64 (entry cs 0 e)) ∧ w = w' := by
  by_cases h1 : 1 ≤ e ∧ e ≤ 8
  · have he : entry cs 0 e = cs.getD (e - 1).toNat 0 := by unfold entry; rw [if_pos h1, Nat.zero_add]
    rw [he]
    obtain ⟨h1, h2⟩ := h1
    obtain ⟨n, rfl⟩ : ∃ n : Nat, e = (n : Int) + 1 := ⟨(e - 1).toNat, by omega⟩
    rw [show ((n : Int) + 1 - 1).toNat = n by omega]
    obtain ⟨x, hxe⟩ : ∃ x, x = cs.getD n 0 := ⟨_, rfl⟩
    have hx := h.cell n (by omega)
    rw [← hxe] at hx
    rw [← hxe]
    clear he hxe
    go_enter Try.func9, Try.ntmps9
    go_wp2_with (first | (go_at_call 13; refine (is_yes _ _ h1 h2).mono ?_; rintro e w' ⟨rfl, rfl⟩) | (go_at_call 15; (with_reducible refine (load_at ⟨b, n, none⟩ x _ hx).mono ?_); rintro e w' ⟨rfl, rfl⟩))
    go_ret
    exact ⟨rfl, rfl⟩
  · have he : entry cs 0 e = 0 := by unfold entry; rw [if_neg h1]
    have h2 : e < 1 ∨ 8 < e := by omega
    rw [he]
    clear he
    go_enter Try.func9, Try.ntmps9
    go_wp2_with (first | (go_at_call 13; refine (is_no _ _ h2).mono ?_; rintro e w' ⟨rfl, rfl⟩))
    go_ret
    exact ⟨rfl, rfl⟩
theorem runs_any (b : Nat) (cs : List Int) (e : Int) (w : World) (h : Mt w b cs) :
    Calls Try.prog 10 #[.pointer (some ⟨b, 0, none⟩), .int .i64 e] w fun r w' => r = .returned (.int .i64 (entry cs 8 e)) ∧ w = w' := by
  by_cases h1 : 1 ≤ e ∧ e ≤ 8
  · have he : entry cs 8 e = cs.getD (8 + (e - 1).toNat) 0 := by unfold entry; rw [if_pos h1]
    rw [he]
    obtain ⟨h1, h2⟩ := h1
    obtain ⟨n, rfl⟩ : ∃ n : Nat, e = (n : Int) + 1 := ⟨(e - 1).toNat, by omega⟩
    rw [show ((n : Int) + 1 - 1).toNat = n by omega]
    obtain ⟨x, hxe⟩ : ∃ x, x = cs.getD (8 + n) 0 := ⟨_, rfl⟩
    have hx := h.cell (8 + n) (by omega)
    rw [← hxe] at hx
    rw [← hxe]
    clear he hxe
    go_enter Try.func10, Try.ntmps10
    go_wp2_with (first | (go_at_call 13; refine (is_yes _ _ h1 h2).mono ?_; rintro e w' ⟨rfl, rfl⟩) | (go_at_call 15; (with_reducible refine (load_at ⟨b, 8 + n, none⟩ x _ hx).mono ?_); rintro e w' ⟨rfl, rfl⟩))
    go_ret
    exact ⟨rfl, rfl⟩
  · have he : entry cs 8 e = 0 := by unfold entry; rw [if_neg h1]
    have h2 : e < 1 ∨ 8 < e := by omega
    rw [he]
    clear he
    go_enter Try.func10, Try.ntmps10
    go_wp2_with (first | (go_at_call 13; refine (is_no _ _ h2).mono ?_; rintro e w' ⟨rfl, rfl⟩))
    go_ret
    exact ⟨rfl, rfl⟩
def zeros : List Int := [0, 0, 0, 0, 0, 0, 0, 0, 0, 0, 0, 0, 0, 0, 0, 0]
theorem new_any (w : World) : Calls Try.prog 6 #[] w fun r w' => r = .returned (.pointer (some ⟨w.heap.size, 0, none⟩)) ∧ Mt w' w.heap.size zeros ∧ Below w.heap.size w w' ∧ w'.heap.size = w.heap.size + 1 := by
  have hm : Mt (w.alloc (.cells #[.int .i64 0, .int .i64 0, .int .i64 0, .int .i64 0, .int .i64 0, .int .i64 0, .int .i64 0, .int .i64 0, .int .i64 0, .int .i64 0, .int .i64 0, .int .i64 0, .int .i64 0, .int .i64 0, .int .i64 0, .int .i64 0] 42)) w.heap.size zeros := ⟨rfl, heap_alloc_new w _⟩
  have H := Lib.hid hm
  clear hm
  go_enter Try.func6, Try.ntmps6
  go_wp2
  go_ret
  exact ⟨rfl, H.out, (Below.refl _ w).alloc (Nat.le_refl _) _, by simp⟩
def wsum (l : List Int) : Int := l.foldl (fun a x => wrap64 (a + x)) 0
theorem wsum_at {l : List Int} {k : Nat} (h : k < l.length) : wsum (l.take (k + 1)) = wrap64 (wsum (l.take k) + l.getD k 0) := by
  have e : l.take (k + 1) = l.take k ++ [l.getD k 0] := by
    rw [List.take_succ_eq_append_getElem h]
    simp [List.getD_eq_getElem?_getD, h]
  rw [e]
  simp [wsum]
def total (cs : List Int) : Int := wsum (cs.take 8)
theorem total_any (b : Nat) (cs : List Int) (w : World) (h : Mt w b cs) :
    Calls Try.prog 11 #[.pointer (some ⟨b, 0, none⟩)] w fun r w' => r = .returned (.int .i64 (total cs)) ∧ w = w' := by
  have hcs := fun k (hk : k < 8) => h.cell k (by omega)
  have hlen := h.len
  have HC := Lib.hid hcs
  clear hcs
  go_enter Try.func11, Try.ntmps11
  go_wp2_with fail
  go_loop [3, 4, 5] (fun s _ i => ∃ k : Nat, k ≤ 8 ∧ i = .int .i64 k ∧ s = .int .i64 (wsum (cs.take k))) (fun _ _ i => 8 - (intOf i).toNat)
  case atStart => exact ⟨0, by omega, rfl, rfl⟩
  case round =>
    obtain ⟨k, hk, rfl, rfl⟩ := hrel
    by_cases hlt : k < 8
    · have hx := HC.out k hlt
      have hs := Lib.hid (wsum_at (l := cs) (k := k) (by omega))
      obtain ⟨x, hxe⟩ : ∃ x, x = cs.getD k 0 := ⟨_, rfl⟩
      obtain ⟨s, hse⟩ : ∃ s, s = wsum (cs.take k) := ⟨_, rfl⟩
      obtain ⟨s1, hs1⟩ : ∃ s1, s1 = wsum (cs.take (k + 1)) := ⟨_, rfl⟩
      have hs := hs.out
      rw [← hxe, ← hse, ← hs1] at hs
      rw [← hxe] at hx
      rw [← hse]
      have HS := Lib.hid hs
      have HS1 := Lib.hid hs1
      clear hs hse hs1 hxe
      go_wp2_with (go_at_call 15; (with_reducible refine (load_at ⟨b, k, none⟩ x _ hx).mono ?_); rintro e w' ⟨rfl, rfl⟩)
      go_round
      case rel => exact ⟨k + 1, by omega, by go_num, by rw [← HS1.out, HS.out]⟩
      case measure => simp [intOf]; omega
    · go_wp2_with fail
      go_ret
      have : k = 8 := by omega
      subst this
      exact ⟨rfl, rfl⟩
def wiped (cs : List Int) (k : Nat) : List Int := (List.replicate k 0 ++ (cs.take 8).drop k) ++ (List.replicate k 0 ++ (cs.drop 8).drop k)
theorem wiped_next {cs : List Int} {k : Nat} (hl : cs.length = 16) (hk : k < 8) : ((wiped cs k).set k 0).set (8 + k) 0 = wiped cs (k + 1) := by
  match cs, hl with
  | [c0, c1, c2, c3, c4, c5, c6, c7, c8, c9, c10, c11, c12, c13, c14, c15], _ =>
    match k, hk with
    | 0, _ => rfl
    | 1, _ => rfl
    | 2, _ => rfl
    | 3, _ => rfl
    | 4, _ => rfl
    | 5, _ => rfl
    | 6, _ => rfl
    | 7, _ => rfl
theorem wiped_all {cs : List Int} (hl : cs.length = 16) : wiped cs 8 = zeros := by
  match cs, hl with
  | [c0, c1, c2, c3, c4, c5, c6, c7, c8, c9, c10, c11, c12, c13, c14, c15], _ => rfl
theorem wiped_none {cs : List Int} : wiped cs 0 = cs := by simp [wiped]
theorem reset_any (b : Nat) (cs : List Int) (w : World) (h : Mt w b cs) :
    Calls Try.prog 12 #[.pointer (some ⟨b, 0, none⟩)] w fun r w' => r = .returned (.tuple #[]) ∧ Mt w' b zeros ∧ w.grownBy w' (some b) := by
  have hlen := h.len
  have h0 : Mt w b (wiped cs 0) := by rw [wiped_none]; exact h
  clear h
  go_enter Try.func12, Try.ntmps12
  go_wp2_with fail
  go_loopw [2, 3] (fun _ i wr => ∃ k : Nat, k ≤ 8 ∧ i = .int .i64 k ∧ Mt wr b (wiped cs k) ∧ w.grownBy wr (some b)) (fun _ i _ => 8 - (intOf i).toNat)
  case atStart => exact ⟨0, by omega, rfl, h0, World.grownBy.refl w _⟩
  case round =>
    obtain ⟨k, hk, rfl, hM, hG⟩ := hrel
    by_cases hlt : k < 8
    · have hx := hM.cell k (by omega)
      have hxf := hM.free k
      have g := hM.set k 0
      have hy := g.cell (8 + k) (by omega)
      have hyf := g.free (8 + k)
      have g2 := g.set (8 + k) 0
      rw [wiped_next hlen hlt] at g2
      obtain ⟨x, hxe⟩ : ∃ x, x = (wiped cs k).getD k 0 := ⟨_, rfl⟩
      rw [← hxe] at hx
      obtain ⟨y, hye⟩ : ∃ y, y = ((wiped cs k).set k 0).getD (8 + k) 0 := ⟨_, rfl⟩
      rw [← hye] at hy
      have G := Lib.hid g2
      clear g g2 hxe hye
      go_wp2_with (first | (go_at_call 16; (with_reducible refine (store_at ⟨b, k, none⟩ x 0 _ hx hxf).mono ?_); rintro e w' ⟨rfl, rfl⟩) | (go_at_call 16; (with_reducible refine (store_at ⟨b, 8 + k, none⟩ y 0 _ hy hyf).mono ?_); rintro e w' ⟨rfl, rfl⟩))
      go_roundw
      case rel => exact ⟨k + 1, by omega, by go_num, G.out, hG.trans ((grown_set _ _ _ _).trans (grown_set _ _ _ _))⟩
      case measure => simp [intOf]; omega
    · go_wp2_with fail
      go_end0
      have : k = 8 := by omega
      subst this
      rw [wiped_all hlen] at hM
      exact ⟨rfl, hM, hG⟩
end Go.Proofs.Ytnpjdegdojkffaa
