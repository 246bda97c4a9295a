/- The statement on runs begun anew now and then: its walk, over runs that are read. -/
import Derived.Test.YtnpjdegdojkffaaMtD
import Derived.Deep.DeepCutAuto
import Derived.Deep.RegionHeld3
import Derived.BigRegion
import Derived.Deep.OwnRows
import Derived.Deep.LoopGhost
namespace Go.Proofs.Ytnpjdegdojkffaa
open Go.RowKit
/-- A row of nine numbers of the call's own. -/
structure Rw (w0 w : World) (g : Nat) (xs : List Int) : Prop where
  len : xs.length = 9
  blk : w.heap[g]? = some (.cells (nums xs) 2 (0, 0))
  base : w0.heap.size ≤ g
theorem Rw.next {w0 w w1 : World} {g : Nat} {xs : List Int} (h : Rw w0 w g xs) (hb : Below w.heap.size w w1) : Rw w0 w1 g xs :=
  ⟨h.len, (hb.block g (Array.getElem?_eq_some_iff.1 h.blk).1).trans h.blk, h.base⟩
theorem Rw.keep {w0 w w1 : World} {g b : Nat} {xs : List Int} (h : Rw w0 w g xs) (hg : w.grownBy w1 (some b)) (hne : g ≠ b) : Rw w0 w1 g xs :=
  ⟨h.len, (hg.block g (Array.getElem?_eq_some_iff.1 h.blk).1 (by intro e; injection e; omega)).trans h.blk, h.base⟩
theorem Rw.drew {w0 w : World} {g : Nat} {xs : List Int} (h : Rw w0 w g xs) : Rw w0 w.drew g xs := ⟨h.len, h.blk, h.base⟩
theorem Rw.ne {w0 w : World} {g b : Nat} {xs cs : List Int} (h : Rw w0 w g xs) (hm : Mo w0 w b cs) : g ≠ b := by
  intro e
  subst e
  have h1 := h.blk
  rw [hm.mt.blk] at h1
  injection h1 with h1
  injection h1 with _ h1
  cases h1
theorem Rw.cell {w0 w : World} {g : Nat} {xs : List Int} (h : Rw w0 w g xs) (j : Nat) (hj : j < 9) : w.cell? ⟨g, j, none⟩ = some (.int .i64 (xs.getD j 0)) := by
  have hl := h.len
  simp [World.cell?, h.blk, nums, List.getElem?_eq_getElem (show j < xs.length by omega)]
theorem Rw.free {w0 w : World} {g : Nat} {xs : List Int} (h : Rw w0 w g xs) (j : Nat) : w.frozen? ⟨g, j, none⟩ = false := by
  simp [World.frozen?, h.blk]
theorem Rw.set {w0 w : World} {g : Nat} {xs : List Int} (h : Rw w0 w g xs) (j : Nat) (x : Int) : Rw w0 (w.setCell ⟨g, j, none⟩ (.int .i64 x)) g (xs.set j x) := by
  refine ⟨by simp [h.len], ?_, h.base⟩
  have hs : nums (xs.set j x) = (nums xs).setIfInBounds j (.int .i64 x) := by simp [nums, List.map_set]
  rw [hs]
  exact heap_setCell_same w g j _ 2 _ h.blk
def nine : List Int := [0, 0, 0, 0, 0, 0, 0, 0, 0]
theorem make_nine (w : World) : (Instr.makeSlice 33 (.int .i64 9) (.int .i64 9)).run Try.prog w = .ok (.slice (some ⟨w.heap.size, 0, none⟩) 9 9) (w.alloc (.cells (nums nine) 2)) := by
  have h := run_make_row' (P := Try.prog) 33 2 (.int .i64 0) 8 Try.underlying33 (by kernel_rfl) rfl .i64 .i64 9 (by omega) (by omega) w
  rw [show madeCells #[.int .i64 0] 9 = nums nine by kernel_rfl] at h
  exact h
theorem two_rows {w0 w : World} {b : Nat} {cs : List Int} (hm : Mo w0 w b cs) :
    Mo w0 ((w.alloc (.cells (nums nine) 2)).alloc (.cells (nums nine) 2)) b cs ∧ Rw w0 ((w.alloc (.cells (nums nine) 2)).alloc (.cells (nums nine) 2)) w.heap.size nine ∧ Rw w0 ((w.alloc (.cells (nums nine) 2)).alloc (.cells (nums nine) 2)) (w.heap.size + 1) nine := by
  refine ⟨hm.next (((Below.refl _ w).alloc (Nat.le_refl _) _).alloc (by simp) _), ⟨rfl, ?_, hm.below.size⟩, ⟨rfl, ?_, Nat.le_succ_of_le hm.below.size⟩⟩
  · rw [Below.heap_alloc _ _ _ (by simp)]
    exact heap_alloc_new w _
  · have := heap_alloc_new (w.alloc (.cells (nums nine) 2)) (.cells (nums nine) 2)
    simpa using this
theorem Rs.three {w : World} {a : Option Addr} {l : List Run} (h : Rs w a l) {i : Nat} (hi : i < l.length) : ∃ ad, a = some ad ∧ ∀ w1, Below w.heap.size w w1 → w1.cell? (ad.add (i * 3)) = some (.int .i64 (l.getD i ⟨0, 0, false⟩).e) ∧ w1.cell? ⟨(ad.add (i * 3)).block, (ad.add (i * 3)).off + 1, none⟩ = some (.int .i64 (l.getD i ⟨0, 0, false⟩).s) ∧ w1.cell? ⟨(ad.add (i * 3)).block, (ad.add (i * 3)).off + 2, none⟩ = some (.bool (l.getD i ⟨0, 0, false⟩).n) := by
  obtain ⟨ad, e, hlt, h0, h1, h2⟩ := h.at_ i hi
  have hx : ∀ j, (ad.add j).block < w.heap.size := fun j => by rw [add_block]; exact hlt
  exact ⟨ad, e, fun w1 hb => ⟨(hb.cell (hx _)).trans h0, (hb.cell (p := ⟨(ad.add (i * 3)).block, (ad.add (i * 3)).off + 1, none⟩) (hx _)).trans h1, (hb.cell (p := ⟨(ad.add (i * 3)).block, (ad.add (i * 3)).off + 2, none⟩) (hx _)).trans h2⟩⟩
theorem toNat_one (n : Nat) : ((n : Int) + 1 - 1).toNat = n := by omega
theorem row_s {cs : List Int} (hl : cs.length = 16) {n : Nat} (hn : n < 8) {S : Int} (hm : may ((n : Int) + 1) S = true) :
    (0 :: cs.take 8).set (n + 1) (wrap64 ((0 :: cs.take 8).getD (n + 1) 0 + S)) = 0 :: (added cs ((n : Int) + 1) S).take 8 := by
  unfold added
  rw [if_pos hm, toNat_one]
  match cs, hl with
  | [c0, c1, c2, c3, c4, c5, c6, c7, c8, c9, c10, c11, c12, c13, c14, c15], _ =>
    match n, hn with
    | 0, _ => rfl
    | 1, _ => rfl
    | 2, _ => rfl
    | 3, _ => rfl
    | 4, _ => rfl
    | 5, _ => rfl
    | 6, _ => rfl
    | 7, _ => rfl
theorem row_r {cs : List Int} (hl : cs.length = 16) {n : Nat} (hn : n < 8) {S : Int} (hm : may ((n : Int) + 1) S = true) :
    (0 :: cs.drop 8).set (n + 1) (wrap64 ((0 :: cs.drop 8).getD (n + 1) 0 + 1)) = 0 :: (added cs ((n : Int) + 1) S).drop 8 := by
  unfold added
  rw [if_pos hm, toNat_one]
  match cs, hl with
  | [c0, c1, c2, c3, c4, c5, c6, c7, c8, c9, c10, c11, c12, c13, c14, c15], _ =>
    match n, hn with
    | 0, _ => rfl
    | 1, _ => rfl
    | 2, _ => rfl
    | 3, _ => rfl
    | 4, _ => rfl
    | 5, _ => rfl
    | 6, _ => rfl
    | 7, _ => rfl
theorem entry_s {cs : List Int} (hl : cs.length = 16) {k : Nat} (hk : k < 9) : entry cs 0 (k : Int) = (0 :: cs.take 8).getD k 0 := by
  match cs, hl with
  | [c0, c1, c2, c3, c4, c5, c6, c7, c8, c9, c10, c11, c12, c13, c14, c15], _ =>
    match k, hk with
    | 0, _ => rfl
    | 1, _ => rfl
    | 2, _ => rfl
    | 3, _ => rfl
    | 4, _ => rfl
    | 5, _ => rfl
    | 6, _ => rfl
    | 7, _ => rfl
    | 8, _ => rfl
theorem entry_r {cs : List Int} (hl : cs.length = 16) {k : Nat} (hk : k < 9) : entry cs 8 (k : Int) = (0 :: cs.drop 8).getD k 0 := by
  match cs, hl with
  | [c0, c1, c2, c3, c4, c5, c6, c7, c8, c9, c10, c11, c12, c13, c14, c15], _ =>
    match k, hk with
    | 0, _ => rfl
    | 1, _ => rfl
    | 2, _ => rfl
    | 3, _ => rfl
    | 4, _ => rfl
    | 5, _ => rfl
    | 6, _ => rfl
    | 7, _ => rfl
    | 8, _ => rfl
theorem wsum_nine {cs : List Int} (hl : cs.length = 16) : wsum ((0 :: cs.take 8).take 9) = total cs := by
  match cs, hl with
  | [c0, c1, c2, c3, c4, c5, c6, c7, c8, c9, c10, c11, c12, c13, c14, c15], _ =>
    show List.foldl _ (wrap64 (0 + 0)) _ = List.foldl _ _ _
    rw [show wrap64 (0 + 0) = 0 by decide +kernel]
    rfl
theorem Mo.drewN {w0 w : World} {b : Nat} {cs : List Int} (h : Mo w0 w b cs) (n : Nat) : Mo w0 (w.drewN n) b cs := ⟨⟨h.mt.len, h.mt.blk⟩, ⟨h.below.os, h.below.tape, h.below.output, h.below.size, h.below.block⟩, h.base⟩
theorem steps_q (w0 : World) (b : Nat) (cs : List Int) (e x : Int) (w : World) (h : Mo w0 w b cs) (h1 : entry cs 0 e = x) :
    Calls Try.prog 9 #[.pointer (some ⟨b, 0, none⟩), .int .i64 e] w fun r w' => r = .returned (.int .i64 x) ∧ w' = w :=
  (steps_o w0 b cs e x w h h1).mono fun _ _ h2 => ⟨h2.1, h2.2.symm⟩
theorem runs_q (w0 : World) (b : Nat) (cs : List Int) (e x : Int) (w : World) (h : Mo w0 w b cs) (h1 : entry cs 8 e = x) :
    Calls Try.prog 10 #[.pointer (some ⟨b, 0, none⟩), .int .i64 e] w fun r w' => r = .returned (.int .i64 x) ∧ w' = w :=
  (runs_o w0 b cs e x w h h1).mono fun _ _ h2 => ⟨h2.1, h2.2.symm⟩
/-- The call's own state: the meter's numbers, and two rows that say the same. -/
structure Pl (w0 w : World) (b g h : Nat) (cs : List Int) : Prop where
  ne : g ≠ h
  m : Mo w0 w b cs
  s : Rw w0 w g (0 :: cs.take 8)
  r : Rw w0 w h (0 :: cs.drop 8)
theorem Pl.drew {w0 w : World} {b g h : Nat} {cs : List Int} (p : Pl w0 w b g h cs) : Pl w0 w.drew b g h cs := ⟨p.ne, p.m.drew, p.s.drew, p.r.drew⟩
set_option maxRecDepth 100000 in
set_option maxHeartbeats 4000000 in
theorem plays_walk (w0 : World) (a : Option Addr) (c : Nat) (l : List Run) (hr : Rs w0 a l) (hl : l.length ≤ 60) :
    Calls Try.prog 5 #[.slice a l.length c] w0 fun r w' => r = .returned (.bool true) ∧ Below w0.heap.size w0 w' := by
  have hb := Below.refl w0.heap.size w0
  have HR := Lib.hid hr
  clear hr
  have hmk := make_nine
  go_enter Try.func5, Try.ntmps5
  go_upto_region 6 with (first
    | (go_at_call 6; refine (new_o w0 _ hb).mono ?_; rintro r w1 ⟨b, rfl, hm, hb1, hle⟩; clear hb)
    | (go_at_call 7; refine (awake_any _).mono ?_; rintro r w2 ⟨rfl, hb3⟩; have hmA := hm.next hb3; clear hm))
  go_cut [4, 5] (fun s4 s5 wx => ∃ g h : Nat, s4 = .slice (some ⟨g, 0, none⟩) 9 9 ∧ s5 = .slice (some ⟨h, 0, none⟩) 9 9 ∧ Pl w0 wx b g h zeros)
  case first =>
    have h2 := Lib.hid (two_rows hmA)
    go_region
    all_goals go_wp2_with fail
    all_goals go_meet
    all_goals (first | exact ⟨_, _, rfl, rfl, by omega, h2.out.1.drew, h2.out.2.1.drew, h2.out.2.2.drew⟩ | exact ⟨_, _, rfl, rfl, by omega, h2.out.1.drew, h2.out.2.2.drew, h2.out.2.1.drew⟩)
  case rest =>
    obtain ⟨g, h, rfl, rfl, hP⟩ := hcut
    go_wp2_with fail
    go_loopw [4, 5, 6] (fun s4 s5 i wr => ∃ (j g h : Nat) (cs : List Int), j ≤ l.length ∧ s4 = .slice (some ⟨g, 0, none⟩) 9 9 ∧ s5 = .slice (some ⟨h, 0, none⟩) 9 9 ∧ i = .int .i64 j ∧ Pl w0 wr b g h cs) (fun _ _ i _ => l.length - (intOf i).toNat)
    case atStart => exact ⟨0, g, h, zeros, Nat.zero_le _, rfl, rfl, rfl, hP⟩
    case round =>
      clear hP
      obtain ⟨j, g, h, cs, hj, rfl, rfl, rfl, hP⟩ := hrel
      by_cases hjl : j < l.length
      · obtain ⟨ad, rfl, F⟩ := HR.out.three hjl
        generalize (l.getD j ⟨0, 0, false⟩).e = E at F
        generalize (l.getD j ⟨0, 0, false⟩).s = S at F
        generalize (l.getD j ⟨0, 0, false⟩).n = N at F
        have f0 := (F wr hP.m.below).1
        have f1 := (F wr hP.m.below).2.1
        have f2 := (F wr hP.m.below).2.2
        have HF := Lib.hid F
        clear F
        go_upto_if 32 with (fail)
        go_cut [4, 5] (fun s4 s5 wx => ∃ (g h : Nat) (cs : List Int), s4 = .slice (some ⟨g, 0, none⟩) 9 9 ∧ s5 = .slice (some ⟨h, 0, none⟩) 9 9 ∧ Pl w0 wx b g h cs)
        case first =>
          cases N with
          | false =>
            go_wp2_with fail
            go_meet
            exact ⟨_, _, _, rfl, rfl, hP⟩
          | true =>
            go_upto_region 12 with (go_at_call 12; (with_reducible refine (reset_o w0 b cs _ hP.m).mono ?_); rintro r w4 ⟨rfl, hM4, hG4⟩)
            have h2 := Lib.hid (two_rows hM4)
            go_region
            all_goals go_wp2_with fail
            all_goals go_meet
            all_goals (first | exact ⟨_, _, _, rfl, rfl, by omega, h2.out.1.drew, h2.out.2.1.drew, h2.out.2.2.drew⟩ | exact ⟨_, _, _, rfl, rfl, by omega, h2.out.1.drew, h2.out.2.2.drew, h2.out.2.1.drew⟩)
        case rest =>
          clear hP f0 f1 f2
          obtain ⟨g, h, cs, rfl, rfl, hP⟩ := hcut
          have f0 := (HF.out _ hP.m.below).1
          have f1 := (HF.out _ hP.m.below).2.1
          go_upto_region 13 with fail
          go_cut [7] (fun s7 wx => s7 = .bool (may E S) ∧ wx = wc)
          case first =>
            by_cases h1 : 1 ≤ E
            · by_cases h2 : E ≤ 8
              · have hm : may E S = decide (0 ≤ S) := by simp [may, h1, h2]
                have HM := Lib.hid hm
                clear hm
                go_wp2_with fail
                all_goals go_meet
                all_goals exact ⟨by rw [HM.out], rfl⟩
              · have hm : may E S = false := by simp [may, h2]
                have HM := Lib.hid hm
                have hd : decide (E ≤ 8) = false := decide_eq_false h2
                clear hm
                go_wp2_with fail
                all_goals go_meet
                all_goals exact ⟨by rw [HM.out], rfl⟩
            · have hm : may E S = false := by simp [may, h1]
              have HM := Lib.hid hm
              have hd : decide (1 ≤ E) = false := decide_eq_false h1
              clear hm
              go_wp2_with fail
              all_goals go_meet
              all_goals exact ⟨by rw [HM.out], rfl⟩
          case rest =>
            obtain ⟨rfl, rfl⟩ := hcut
            generalize hmb : may E S = mb
            have HB := Lib.hid hmb
            clear hmb
            go_upto_region 14 with fail
            go_cut [73] (fun s73 wx => s73 = .bool false ∧ Mo w0 wx b (added cs E S) ∧ Rw w0 wx g (0 :: cs.take 8) ∧ Rw w0 wx h (0 :: cs.drop 8))
            case first =>
              have hne := hP.s.ne hP.m
              have hne2 := hP.r.ne hP.m
              cases mb with
              | true =>
                have ho := Lib.hid (show okOf E S = 0 by unfold okOf; rw [if_pos HB.out])
                go_region_held3 (fun w' => w'.cell? (ad.add (j * 3)) = some (.int .i64 E) ∧ w'.cell? ⟨(ad.add (j * 3)).block, (ad.add (j * 3)).off + 1, none⟩ = some (.int .i64 S)) (first | go_keep | exact ⟨(HF.out _ hM1.below).1, (HF.out _ hM1.below).2.1⟩) (first | (go_at_call 8; (with_reducible refine (add_o w0 b cs _ E S 0 _ hP.m.drew rfl ho.out).mono ?_); rintro r w5 ⟨rfl, hM1, hG1⟩))
                go_wp2_with fail
                go_meet
                exact ⟨rfl, hM1, hP.s.drew.keep hG1 hne, hP.r.drew.keep hG1 hne2⟩
              | false =>
                have ho := Lib.hid (show okOf E S = 1 by unfold okOf; rw [HB.out]; rfl)
                go_region_held3 (fun w' => w'.cell? (ad.add (j * 3)) = some (.int .i64 E) ∧ w'.cell? ⟨(ad.add (j * 3)).block, (ad.add (j * 3)).off + 1, none⟩ = some (.int .i64 S)) (first | go_keep | exact ⟨(HF.out _ hM1.below).1, (HF.out _ hM1.below).2.1⟩) (first | (go_at_call 8; (with_reducible refine (add_o w0 b cs _ E S 1 _ hP.m.drew rfl ho.out).mono ?_); rintro r w5 ⟨rfl, hM1, hG1⟩))
                go_wp2_with fail
                go_meet
                exact ⟨rfl, hM1, hP.s.drew.keep hG1 hne, hP.r.drew.keep hG1 hne2⟩
            case rest =>
              obtain ⟨rfl, hM, hS, hR⟩ := hcut
              have hgh := hP.ne
              have hP0 := Lib.hid hP
              clear hP f0 f1
              go_upto_if 74 with fail
              go_cut [] (fun wx => Pl w0 wx b g h (added cs E S))
              case first =>
                cases mb with
                | true =>
                  have hm := HB.out
                  have h1 : 1 ≤ E := by simp [may] at hm; omega
                  have h2 : E ≤ 8 := by simp [may] at hm; omega
                  have h3 : 0 ≤ S := by simp [may] at hm; omega
                  clear hm
                  obtain ⟨n, rfl⟩ : ∃ n : Nat, E = (n : Int) + 1 := ⟨(E - 1).toNat, by omega⟩
                  have f0 := (HF.out _ hM.below).1
                  have f1 := (HF.out _ hM.below).2.1
                  have fs := hS.cell (n + 1) (by omega)
                  have ffs := hS.free (n + 1)
                  have hcl := hP0.out.m.mt.len
                  have rs := row_s hcl (show n < 8 by omega) HB.out
                  have rr := row_r hcl (show n < 8 by omega) HB.out
                  have hg3 := hS.set (n + 1) (wrap64 ((0 :: cs.take 8).getD (n + 1) 0 + S))
                  rw [rs] at hg3
                  generalize (0 :: cs.take 8).getD (n + 1) 0 = X at fs hg3 rs
                  have HG3 := Lib.hid hg3
                  have RR := Lib.hid rr
                  clear hg3 rs rr
                  have hgr := Lib.hid (grown_set wc g (n + 1) (.int .i64 (wrap64 (X + S))))
                  have hgb := hS.ne hM
                  have hhb := hR.ne hM
                  go_upto_region 17 with fail
                  go_cut [] (fun wx => Mo w0 wx b (added cs ((n : Int) + 1) S) ∧ Rw w0 wx g (0 :: (added cs ((n : Int) + 1) S).take 8) ∧ Rw w0 wx h (0 :: cs.drop 8))
                  case first =>
                    have g0 : (0 : Int) ≤ (n : Int) + 1 := by omega
                    have g9 : (n : Int) + 1 < 9 := by omega
                    have gj : (0 : Int) ≤ (j : Int) := by omega
                    have gl : (j : Int) < (l.length : Int) := by omega
                    go_region
                    go_wp2_with fail
                    go_meet
                    exact ⟨Mo.drew ⟨hM.mt.keep hgr.out (by intro e; injection e; omega), hM.below.grown hgr.out hM.below.size (by intro k hk; cases hk; exact hS.base), hM.base⟩, HG3.out.drew, (hR.keep hgr.out (Ne.symm hgh)).drew⟩
                  case rest =>
                    clear hM hS hR f0 f1 fs ffs
                    obtain ⟨hM, hS, hR⟩ := hcut
                    have f0 := (HF.out _ hM.below).1
                    have fs := hR.cell (n + 1) (by omega)
                    have ffs := hR.free (n + 1)
                    have hg3 := hR.set (n + 1) (wrap64 ((0 :: cs.drop 8).getD (n + 1) 0 + 1))
                    rw [RR.out] at hg3
                    generalize (0 :: cs.drop 8).getD (n + 1) 0 = Y at fs hg3
                    have HG4 := Lib.hid hg3
                    clear hg3
                    have hgr2 := Lib.hid (grown_set wc h (n + 1) (.int .i64 (wrap64 (Y + 1))))
                    go_wp2_with fail
                    go_meet
                    exact ⟨hgh, ⟨hM.mt.keep hgr2.out (by intro e; injection e; omega), hM.below.grown hgr2.out hM.below.size (by intro k hk; cases hk; exact hR.base), hM.base⟩, hS.keep hgr2.out hgh, HG4.out⟩
                | false =>
                  go_wp2_with fail
                  go_meet
                  have : added cs E S = cs := by unfold added; rw [HB.out]; rfl
                  rw [this] at hM ⊢
                  exact ⟨hgh, hM, hS, hR⟩
              case rest =>
                have hP := hcut
                clear hcut hM hS hR hgh
                generalize added cs E S = cs2 at hP
                go_wp2_with fail
                go_loopw [8, 9] (fun al i wr => ∃ k : Nat, k ≤ 9 ∧ i = .int .i64 k ∧ al = .int .i64 (wsum ((0 :: cs2.take 8).take k)) ∧ Pl w0 wr b g h cs2) (fun _ i _ => 9 - (intOf i).toNat)
                case atStart => exact ⟨0, by omega, rfl, rfl, hP⟩
                case round =>
                  clear hP
                  obtain ⟨k, hk, rfl, rfl, hP⟩ := hrel
                  by_cases hk9 : k < 9
                  · have hcl := hP.m.mt.len
                    have fs := hP.s.cell k (by omega)
                    have fr := hP.r.cell k (by omega)
                    have es := entry_s hcl hk9
                    have er := entry_r hcl hk9
                    have hw := wsum_at (l := 0 :: cs2.take 8) (k := k) (by simp; omega)
                    generalize (0 :: cs2.take 8).getD k 0 = X at fs es hw
                    generalize (0 :: cs2.drop 8).getD k 0 = Y at fr er
                    have ES := Lib.hid es
                    have ER := Lib.hid er
                    generalize hA : wsum ((0 :: cs2.take 8).take k) = A at hw
                    have HW := Lib.hid hw
                    clear hw es er hA
                    have hxx : (X != X) = false := by simp
                    have hyy : (Y != Y) = false := by simp
                    have gk : (0 : Int) ≤ (k : Int) := by omega
                    have gk9 : (k : Int) < 9 := by omega
                    go_upto_region 23 with fail
                    go_quiet ((first | (go_at_call 9; exact Calls.quiet_of_same (steps_q w0 b cs2 k X _ (hP.m.drewN _) ES.out)) | (go_at_call 10; exact Calls.quiet_of_same (runs_q w0 b cs2 k Y _ (hP.m.drewN _) ER.out))))
                    go_wp2_with fail
                    go_roundw
                    case rel => exact ⟨k + 1, by omega, by go_num, by rw [HW.out], ⟨hP.ne, hP.m.drewN _, ⟨hP.s.len, hP.s.blk, hP.s.base⟩, ⟨hP.r.len, hP.r.blk, hP.r.base⟩⟩⟩
                    case measure => simp [intOf]; omega
                  · obtain rfl : k = 9 := by omega
                    have hcl := hP.m.mt.len
                    rw [wsum_nine hcl]
                    generalize ht : total cs2 = T
                    have HT := Lib.hid ht
                    clear ht
                    have htt : (T != T) = false := by simp
                    go_wp2_with (go_at_call 11; (with_reducible refine (total_o w0 b cs2 T _ hP.m HT.out).mono ?_); rintro r w4 ⟨rfl, rfl⟩)
                    go_roundw
                    case rel => exact ⟨j + 1, g, h, cs2, by omega, rfl, rfl, by go_num, hP⟩
                    case measure => simp [intOf]; omega
      · go_wp2_with fail
        go_ret
        exact ⟨rfl, hP.m.below⟩
end Go.Proofs.Ytnpjdegdojkffaa
