/- The statement on orders of runs: its walk, over runs that are read. -/
import Derived.Test.YtnpjdegdojkffaaMtB
import Derived.StillTailTactics
import Derived.Deep.RegionHeld3
namespace Go.Proofs.Ytnpjdegdojkffaa
open Go.RowKit
/-- Runs that are read: each an engine's number, steps, and a bool. -/
structure Run where
  e : Int
  s : Int
  n : Bool
structure Rs (w : World) (a : Option Addr) (l : List Run) : Prop where
  max : l.length ≤ 9223372036854775807
  at_ : ∀ i, i < l.length → ∃ ad, a = some ad ∧ ad.block < w.heap.size ∧ w.cell? (ad.add (i * 3)) = some (.int .i64 (l.getD i ⟨0, 0, false⟩).e) ∧ w.cell? ⟨(ad.add (i * 3)).block, (ad.add (i * 3)).off + 1, none⟩ = some (.int .i64 (l.getD i ⟨0, 0, false⟩).s) ∧ w.cell? ⟨(ad.add (i * 3)).block, (ad.add (i * 3)).off + 2, none⟩ = some (.bool (l.getD i ⟨0, 0, false⟩).n)
theorem below_drew' {B : Nat} {w W : World} (h : Below B w W) : Below B w W.drew := h.drew
def adds (cs : List Int) (l : List Run) : List Int := l.foldl (fun c r => added c r.e r.s) cs
theorem add_block (ad : Addr) (j : Nat) : (ad.add j).block = ad.block := by unfold Addr.add; split <;> rfl
theorem Rs.two {w : World} {a : Option Addr} {l : List Run} (h : Rs w a l) {i : Nat} (hi : i < l.length) : ∃ ad, a = some ad ∧ ∀ w1, Below w.heap.size w w1 → w1.cell? (ad.add (i * 3)) = some (.int .i64 (l.getD i ⟨0, 0, false⟩).e) ∧ w1.cell? ⟨(ad.add (i * 3)).block, (ad.add (i * 3)).off + 1, none⟩ = some (.int .i64 (l.getD i ⟨0, 0, false⟩).s) := by
  obtain ⟨ad, e, hlt, h0, h1, h2⟩ := h.at_ i hi
  have hx : ∀ j, (ad.add j).block < w.heap.size := fun j => by rw [add_block]; exact hlt
  exact ⟨ad, e, fun w1 hb => ⟨(hb.cell (hx _)).trans h0, (hb.cell (p := ⟨(ad.add (i * 3)).block, (ad.add (i * 3)).off + 1, none⟩) (hx _)).trans h1⟩⟩
theorem adds_at {cs : List Int} {l : List Run} {k : Nat} (h : k < l.length) : adds cs (l.take (k + 1)) = added (adds cs (l.take k)) (l.getD k ⟨0, 0, false⟩).e (l.getD k ⟨0, 0, false⟩).s := by
  have e : l.take (k + 1) = l.take k ++ [l.getD k ⟨0, 0, false⟩] := by
    rw [List.take_succ_eq_append_getElem h]
    simp [List.getD_eq_getElem?_getD, h]
  rw [e]
  simp [adds]
theorem Mo.drew {w0 w : World} {b : Nat} {cs : List Int} (h : Mo w0 w b cs) : Mo w0 w.drew b cs := ⟨⟨h.mt.len, h.mt.blk⟩, below_drew' h.below, h.base⟩
theorem adds_from {cs : List Int} {l : List Run} {k j : Nat} (hk : k ≤ j) (h : j < l.length) : adds cs ((l.take (j + 1)).drop k) = added (adds cs ((l.take j).drop k)) (l.getD j ⟨0, 0, false⟩).e (l.getD j ⟨0, 0, false⟩).s := by
  have e : (l.take (j + 1)).drop k = (l.take j).drop k ++ [l.getD j ⟨0, 0, false⟩] := by
    rw [List.take_succ_eq_append_getElem h, List.drop_append_of_le_length (by simp; omega)]
    simp [List.getD_eq_getElem?_getD, h]
  rw [e]
  simp [adds]
def bump (x : Int) : Option Int → Int
  | none => x
  | some d => wrap64 (x + d)
theorem bump_comm (x : Int) (a b : Option Int) : bump (bump x a) b = bump (bump x b) a := by
  cases a <;> cases b <;> simp only [bump]
  unfold wrap64
  omega
def inc (e s : Int) (j : Nat) : Option Int := if may e s = true then (if j = (e - 1).toNat then some s else if j = 8 + (e - 1).toNat then some 1 else none) else none
theorem added_len (cs : List Int) (e s : Int) : (added cs e s).length = cs.length := by unfold added; split <;> simp
theorem added_at {cs : List Int} (hl : cs.length = 16) (e s : Int) (j : Nat) (hj : j < 16) : (added cs e s).getD j 0 = bump (cs.getD j 0) (inc e s j) := by
  unfold added inc
  by_cases hm : may e s = true
  · rw [if_pos hm, if_pos hm]
    have h1 : 1 ≤ e ∧ e ≤ 8 := by simp [may] at hm; omega
    have h2 : (e - 1).toNat < 8 := by omega
    generalize (e - 1).toNat = n at h2 ⊢
    by_cases ha : j = n
    · rw [if_pos ha]
      subst ha
      simp [bump, List.getD_eq_getElem?_getD, hl, show j < 16 by omega]
    · rw [if_neg ha]
      by_cases hb : j = 8 + n
      · rw [if_pos hb]
        subst hb
        simp [bump, List.getD_eq_getElem?_getD, hl, show 8 + n < 16 by omega]
      · rw [if_neg hb]
        simp [bump, List.getD_eq_getElem?_getD, Ne.symm ha, Ne.symm hb]
  · rw [if_neg hm, if_neg hm]
    rfl
theorem list_ext {a b : List Int} (ha : a.length = 16) (hb : b.length = 16) (h : ∀ j, j < 16 → a.getD j 0 = b.getD j 0) : a = b := by
  refine List.ext_getElem (by omega) fun j h1 h2 => ?_
  have := h j (by omega)
  simpa [List.getD_eq_getElem?_getD, h1, h2] using this
theorem added_comm {cs : List Int} (hl : cs.length = 16) (e s e' s' : Int) : added (added cs e s) e' s' = added (added cs e' s') e s := by
  refine list_ext (by simp [added_len, hl]) (by simp [added_len, hl]) fun j hj => ?_
  rw [added_at (by simp [added_len, hl]) _ _ _ hj, added_at hl _ _ _ hj, added_at (by simp [added_len, hl]) _ _ _ hj, added_at hl _ _ _ hj]
  exact bump_comm _ _ _
theorem adds_len (l : List Run) : ∀ cs, (adds cs l).length = cs.length := by
  induction l with
  | nil => intro cs; rfl
  | cons r l ih => intro cs; exact (ih _).trans (added_len _ _ _)
theorem adds_first (l : List Run) : ∀ cs, cs.length = 16 → ∀ e s, added (adds cs l) e s = adds (added cs e s) l := by
  induction l with
  | nil => intro cs _ e s; rfl
  | cons r l ih =>
    intro cs hl e s
    show added (adds (added cs r.e r.s) l) e s = adds (added (added cs e s) r.e r.s) l
    rw [ih _ (by rw [added_len, hl]), added_comm hl]
theorem adds_turn (b : List Run) : ∀ (a : List Run) (cs : List Int), cs.length = 16 → adds (adds cs a) b = adds (adds cs b) a := by
  induction b with
  | nil => intro a cs _; rfl
  | cons r b ih =>
    intro a cs hl
    show adds (added (adds cs a) r.e r.s) b = adds (adds (added cs r.e r.s) b) a
    rw [adds_first a cs hl, ih a _ (by rw [added_len, hl])]
theorem adds_order (l : List Run) (k : Nat) : adds (adds zeros (l.drop k)) (l.take k) = adds zeros l := by
  rw [adds_turn _ _ _ rfl]
  show List.foldl _ (List.foldl _ _ _) _ = List.foldl _ _ _
  rw [← List.foldl_append, List.take_append_drop]
set_option maxHeartbeats 1000000 in
theorem order_walk (w0 : World) (a : Option Addr) (c : Nat) (l : List Run) (x : Int) (hr : Rs w0 a l) (h0 : 0 ≤ x) (h1 : x ≤ 255) (hl : l.length ≤ 60) :
    Calls Try.prog 3 #[.slice a l.length c, .int .u8 x] w0 fun r w' => r = .returned (.bool true) ∧ Below w0.heap.size w0 w' := by
  have hb := Below.refl w0.heap.size w0
  have HR := Lib.hid hr
  clear hr
  go_enter Try.func3, Try.ntmps3
  go_wp2_with (first
    | (go_at_call 6; refine (new_o w0 _ hb).mono ?_; rintro r w1 ⟨b, rfl, hm, hb1, hle⟩; clear hb; have hbm := hm.below)
    | (go_at_call 6; refine (new_o w0 _ hbm).mono ?_; rintro r w2 ⟨b2, rfl, hn, hb2, hle2⟩; have hlt := hm.mt.lt; have hm2 := hm.next hb2; clear hm hbm)
    | (go_at_call 7; refine (awake_any _).mono ?_; rintro r w2 ⟨rfl, hb3⟩; have hmA := hm2.next hb3; have hnA := hn.next hb3; clear hm2 hn))
  generalize hz : x % ((l.length : Int) + 1) = z
  obtain ⟨k, rfl⟩ : ∃ k : Nat, z = (k : Int) := ⟨z.toNat, by rw [← hz]; exact (Int.toNat_of_nonneg (Int.emod_nonneg _ (by omega))).symm⟩
  have hk : k ≤ l.length := by
    have := Int.emod_lt_of_pos x (show (0 : Int) < (l.length : Int) + 1 by omega)
    omega
  clear hz
  go_loopw [8] (fun i wr => ∃ j : Nat, j ≤ l.length ∧ i = .int .i64 j ∧ Mo w0 wr b (adds zeros (l.take j)) ∧ Mo w0 wr b2 zeros) (fun i _ => l.length - (intOf i).toNat)
  case atStart => exact ⟨0, by omega, rfl, hmA, hnA⟩
  case round =>
    obtain ⟨j, hj, rfl, hM, hN⟩ := hrel
    by_cases hjl : j < l.length
    · obtain ⟨ad, rfl, F⟩ := HR.out.two hjl
      obtain ⟨E, hE⟩ : ∃ E, E = (l.getD j ⟨0, 0, false⟩).e := ⟨_, rfl⟩
      obtain ⟨S, hS⟩ : ∃ S, S = (l.getD j ⟨0, 0, false⟩).s := ⟨_, rfl⟩
      have hadd := adds_at (cs := zeros) hjl
      rw [← hE, ← hS] at F
      rw [← hE, ← hS] at hadd
      have HA := Lib.hid hadd.symm
      have f0 := (F wr hM.below).1
      have f1 := (F wr hM.below).2
      have HF := Lib.hid F
      clear hadd hE hS F
      go_wp2_with fail
      go_region_held3 (fun w' => w'.cell? (ad.add (j * 3)) = some (.int .i64 E) ∧ w'.cell? ⟨(ad.add (j * 3)).block, (ad.add (j * 3)).off + 1, none⟩ = some (.int .i64 S)) (first | go_keep | exact HF.out _ hM1.below) (first | (go_at_call 8; (with_reducible refine (add_o w0 b _ _ E S _ _ hM.drew HA.out rfl).mono ?_); rintro r w3 ⟨rfl, hM1, hG1⟩))
      go_wp2_with fail
      go_roundw
      case rel => exact ⟨j + 1, by omega, by go_num, hM1, ⟨hN.drew.mt.keep hG1 (by intro e; injection e; omega), hM1.below, hN.base⟩⟩
      case measure => simp [intOf]; omega
    · go_wp2_with fail
      obtain rfl : j = l.length := by omega
      rw [List.take_length] at hM
      go_loopw [9] (fun i wr => ∃ j : Nat, k ≤ j ∧ j ≤ l.length ∧ i = .int .i64 j ∧ Mo w0 wr b (adds zeros l) ∧ Mo w0 wr b2 (adds zeros ((l.take j).drop k))) (fun i _ => l.length - (intOf i).toNat)
      case atStart => exact ⟨k, Nat.le_refl _, hk, rfl, hM, by rw [List.drop_of_length_le (by simp; omega)]; exact hN⟩
      case round =>
        clear hM hN
        obtain ⟨j, hkj, hj, rfl, hM, hN⟩ := hrel
        by_cases hjl : j < l.length
        · obtain ⟨ad, rfl, F⟩ := HR.out.two hjl
          obtain ⟨E, hE⟩ : ∃ E, E = (l.getD j ⟨0, 0, false⟩).e := ⟨_, rfl⟩
          obtain ⟨S, hS⟩ : ∃ S, S = (l.getD j ⟨0, 0, false⟩).s := ⟨_, rfl⟩
          have hadd := adds_from (cs := zeros) hkj hjl
          rw [← hE, ← hS] at F
          rw [← hE, ← hS] at hadd
          have HA := Lib.hid hadd.symm
          have f0 := (F wr hM.below).1
          have f1 := (F wr hM.below).2
          have HF := Lib.hid F
          clear hadd hE hS F
          go_wp2_with fail
          go_region_held3 (fun w' => w'.cell? (ad.add (j * 3)) = some (.int .i64 E) ∧ w'.cell? ⟨(ad.add (j * 3)).block, (ad.add (j * 3)).off + 1, none⟩ = some (.int .i64 S)) (first | go_keep | exact HF.out _ hM1.below) (first | (go_at_call 8; (with_reducible refine (add_o w0 b2 _ _ E S _ _ hN.drew HA.out rfl).mono ?_); rintro r w3 ⟨rfl, hM1, hG1⟩))
          go_wp2_with fail
          go_roundw
          case rel => exact ⟨j + 1, by omega, by omega, by go_num, ⟨hM.drew.mt.keep hG1 (by intro e; injection e; omega), hM1.below, hM.base⟩, hM1⟩
          case measure => simp [intOf]; omega
        · go_wp2_with fail
          obtain rfl : j = l.length := by omega
          rw [List.take_length] at hN
          go_loopw [10] (fun i wr => ∃ j : Nat, j ≤ k ∧ i = .int .i64 j ∧ Mo w0 wr b (adds zeros l) ∧ Mo w0 wr b2 (adds (adds zeros (l.drop k)) (l.take j))) (fun i _ => k - (intOf i).toNat)
          case atStart => exact ⟨0, Nat.zero_le _, rfl, hM, hN⟩
          case round =>
            clear hM hN
            obtain ⟨j, hj, rfl, hM, hN⟩ := hrel
            by_cases hjk : j < k
            · have hjl : j < l.length := by omega
              obtain ⟨ad, rfl, F⟩ := HR.out.two hjl
              obtain ⟨E, hE⟩ : ∃ E, E = (l.getD j ⟨0, 0, false⟩).e := ⟨_, rfl⟩
              obtain ⟨S, hS⟩ : ∃ S, S = (l.getD j ⟨0, 0, false⟩).s := ⟨_, rfl⟩
              have hadd := adds_at (cs := adds zeros (l.drop k)) hjl
              rw [← hE, ← hS] at F
              rw [← hE, ← hS] at hadd
              have HA := Lib.hid hadd.symm
              have f0 := (F wr hM.below).1
              have f1 := (F wr hM.below).2
              have HF := Lib.hid F
              clear hadd hE hS F
              go_wp2_with fail
              go_region_held3 (fun w' => w'.cell? (ad.add (j * 3)) = some (.int .i64 E) ∧ w'.cell? ⟨(ad.add (j * 3)).block, (ad.add (j * 3)).off + 1, none⟩ = some (.int .i64 S)) (first | go_keep | exact HF.out _ hM1.below) (first | (go_at_call 8; (with_reducible refine (add_o w0 b2 _ _ E S _ _ hN.drew HA.out rfl).mono ?_); rintro r w3 ⟨rfl, hM1, hG1⟩))
              go_wp2_with fail
              go_roundw
              case rel => exact ⟨j + 1,  by omega, by go_num, ⟨hM.drew.mt.keep hG1 (by intro e; injection e; omega), hM1.below, hM.base⟩, hM1⟩
              case measure => simp [intOf]; omega
            · go_wp2_with fail
              obtain rfl : j = k := by omega
              rw [adds_order] at hN
              obtain ⟨F, hF⟩ : ∃ F, F = adds zeros l := ⟨_, rfl⟩
              rw [← hF] at hM hN
              clear hF
              go_loop [11] (fun i => ∃ e : Nat, e ≤ 10 ∧ i = .int .i64 e) (fun i => 10 - (intOf i).toNat)
              case atStart => exact ⟨0, by omega, rfl⟩
              case round =>
                obtain ⟨e, he, rfl⟩ := hrel
                by_cases hlt9 : e < 10
                · go_wp2_with (first
                    | (go_at_call 9; (with_reducible refine (steps_o w0 b F e _ _ hM rfl).mono ?_); rintro r w4 ⟨rfl, rfl⟩)
                    | (go_at_call 9; (with_reducible refine (steps_o w0 b2 F e _ _ hN rfl).mono ?_); rintro r w4 ⟨rfl, rfl⟩)
                    | (go_at_call 10; (with_reducible refine (runs_o w0 b F e _ _ hM rfl).mono ?_); rintro r w4 ⟨rfl, rfl⟩)
                    | (go_at_call 10; (with_reducible refine (runs_o w0 b2 F e _ _ hN rfl).mono ?_); rintro r w4 ⟨rfl, rfl⟩))
                  go_round
                  case rel => exact ⟨e + 1, by omega, by go_num⟩
                  case measure => simp [intOf]; omega
                · obtain rfl : e = 10 := by omega
                  go_wp2_with (first
                    | (go_at_call 11; (with_reducible refine (total_o w0 b F _ _ hM rfl).mono ?_); rintro r w4 ⟨rfl, rfl⟩)
                    | (go_at_call 11; (with_reducible refine (total_o w0 b2 F _ _ hN rfl).mono ?_); rintro r w4 ⟨rfl, rfl⟩))
                  go_ret
                  exact ⟨by simp, hM.below⟩
end Go.Proofs.Ytnpjdegdojkffaa
