/- What the given program's functions come to, each a Lean function and the walk that shows it: no condition beside those that each theorem names. -/
import Derived.Test.YtcjngbpmdmfbdaaPBandRunsx0
import Derived.Test.YtcjngbpmdmfbdaaPBandRunsx1
import Derived.Test.YtcjngbpmdmfbdaaPBandRunsx2
import Derived.Test.YtcjngbpmdmfbdaaPBandRunsx6
namespace Go.Proofs.Ytcjngbpmdmfbdaa.PBandRuns
open Go.RowKit Go.Proofs.YtcjngbpmdmfbdaaW.PrintWords Go.Proofs.YtcjngbpmdmfbdaaW.PrintLast Go.Proofs.YtcjngbpmdmfbdaaW.PrintMore
attribute [local go_sem] max2_int min2_int max_two min_two max_three min_three max_four min_four   -- for this text's walks alone
set_option linter.unusedVariables false
set_option linter.unusedSimpArgs false

/-! ### band_Run: function 15, by hand -/
theorem info43_ : (Try.prog.info? 43).map (fun i => (i.zero, i.size, i.bytes)) = some (some (.agg #[(.int .i64 0), (.slice none 0 0)]), 2, 32) := by kernel_rfl
/-- n rows of the band, and the last one. -/
def band_Run.g (k : Nat) (l0 l1 : List Int) (lo hi : Int) : Nat → Option (List S43 × S43)
 | 0 => some ([], z43)
 | n + 1 => (band_Run.g k l0 l1 lo hi n).bind fun p => (band_next.f k l0 l1 (n : Int) lo hi p.2.f0 p.2.f1).bind fun r => some (p.1 ++ [⟨r.1, r.2⟩], ⟨r.1, r.2⟩)
def band_Run.l0 : Nat → List Int → List Int → Int → Int → Option (List S49 × Int)
 | 0, _, _, _, _ => none
 | k + 1, l0, l1, st, kk => (band_Cells.f k (l0.length : Int) (l1.length : Int) kk).bind fun c => (band_edges.f (l0.length : Int) (l1.length : Int) kk).bind fun e => if l0.length < 1000000 then ((band_Run.g k l0 l1 e.1 e.2.1 (l0.length + 1)).bind fun p => (band_line_at.f p.2.f0 p.2.f1 (l1.length : Int)).bind fun d => if d ≤ kk then ((band_back.f k l0 l1 p.1).bind fun b => some (b, wrap64 (st + c))) else band_Run.l0 k l0 l1 (wrap64 (st + c)) (wrap64 (wrap64 (2 * kk) + 1))) else none
def band_Run.f (k : Nat) (l0 l1 : List Int) : Option (List S49 × Int) := band_Run.l0 k l0 l1 0 (mx (wrap64 ((l0.length : Int) - (l1.length : Int))) (wrap64 ((l1.length : Int) - (l0.length : Int))))
theorem band_Run.mono_g (k : Nat) (l0 l1 : List Int) (lo hi : Int) : ∀ n, LeO (band_Run.g k l0 l1 lo hi n) (band_Run.g (k + 1) l0 l1 lo hi n)
 | 0 => LeO.refl _
 | n + 1 => by
  unfold band_Run.g
  exact LeO.bind (band_Run.mono_g k l0 l1 lo hi n) fun p => LeO.bind (band_next.mono _ _ _ _ _ _ _ _) fun _ => LeO.refl _
theorem band_Run.mono_l : ∀ k l0 l1 st kk, LeO (band_Run.l0 k l0 l1 st kk) (band_Run.l0 (k + 1) l0 l1 st kk)
 | 0, _, _, _, _ => fun r h => by simp [band_Run.l0] at h
 | k + 1, l0, l1, st, kk => by
  have ih := band_Run.mono_l k
  unfold band_Run.l0
  exact LeO.bind (band_Cells.mono _ _ _ _) fun _ => LeO.bind (LeO.refl _) fun _ => LeO.ite (LeO.bind (band_Run.mono_g _ _ _ _ _ _) fun _ => LeO.bind (LeO.refl _) fun _ => LeO.ite (LeO.bind (band_back.mono _ _ _ _) fun _ => LeO.refl _) (ih _ _ _ _)) (LeO.refl _)
theorem band_Run.mono : ∀ a0 a1 k, LeO (band_Run.f k a0 a1) (band_Run.f (k + 1) a0 a1) := fun _ _ _ => band_Run.mono_l _ _ _ _ _
theorem band_Run.g_len {k : Nat} {l0 l1 : List Int} {lo hi : Int} : ∀ {n : Nat} {p : List S43 × S43}, band_Run.g k l0 l1 lo hi n = some p → p.1.length = n
 | 0, p, h => by cases h; rfl
 | n + 1, p, h => by
  unfold band_Run.g at h
  obtain ⟨q, hq, h⟩ := Option.bind_eq_some_iff.mp h
  obtain ⟨r, _, h⟩ := Option.bind_eq_some_iff.mp h
  cases h
  simp [band_Run.g_len hq]
theorem band_Run.g_ahead {k : Nat} {l0 l1 : List Int} {lo hi : Int} {m : Nat} : ∀ {d n : Nat} {p : List S43 × S43}, m + d = n → band_Run.g k l0 l1 lo hi n = some p → ∃ q, band_Run.g k l0 l1 lo hi m = some q
 | 0, n, p, e, h => ⟨p, by rw [show m = n by omega]; exact h⟩
 | d + 1, n, p, e, h => by
  obtain ⟨n, rfl⟩ : ∃ n', n = n' + 1 := ⟨n - 1, by omega⟩
  unfold band_Run.g at h
  obtain ⟨q, hq, _⟩ := Option.bind_eq_some_iff.mp h
  exact band_Run.g_ahead (d := d) (by omega) hq
theorem FK43_of_V {w : World} {base : Nat} {ok : Nat → Prop} {x : S43} {v : Value} (h : Kd.V (Kd.int .i64) 3 w base ok v x.f1) : Kd.FK k43 w ok x [.int .i64 x.f0, v] := by
 obtain ⟨A, c, rfl, hl, hf⟩ := h
 exact fun W' hW => k43_mk W' x hl (hf W' hW)
theorem set_next (l : List S43) (x z : S43) (n i : Nat) (hi : l.length = i) (hn : i < n) : (l ++ List.replicate (n - i) z).set i x = (l ++ [x]) ++ List.replicate (n - (i + 1)) z := by
 subst hi
 obtain ⟨m, hm⟩ : ∃ m, n - l.length = m + 1 := ⟨n - l.length - 1, by omega⟩
 rw [hm, show n - (l.length + 1) = m by omega, List.replicate_succ, List.append_assoc]
 simp
theorem FK43_zero (w : World) (ok : Nat → Prop) : Kd.FK k43 w ok z43 [.int .i64 0, .slice none 0 0] := fun W' _ => k43_mk W' z43 (Nat.le_refl _) (Kd.C_nil (Kd.int .i64) W')
theorem two_of {c : List Value} (h : c.length = 2) : ∃ a b, c = [a, b] := by
 match c, h with
 | [a, b], _ => exact ⟨a, b, rfl⟩
set_option maxHeartbeats 8000000 in
set_option maxRecDepth 100000 in
theorem band_Run.calls (k : Nat) (A0 : Option Addr) (c0 : Nat) (l0 : List Int) (A1 : Option Addr) (c1 : Nat) (l1 : List Int) (r1 : List S49) (r2 : Int) (w : World) (hr0 : Kd.C (Kd.int .i64) w A0 l0.length l0) (hc0 : l0.length ≤ c0) (hr1 : Kd.C (Kd.int .i64) w A1 l1.length l1) (hc1 : l1.length ≤ c1) (h : band_Run.f k l0 l1 = some (r1, r2)) :
  Calls Try.prog 15 #[.slice A0 l0.length c0, .slice A1 l1.length c1] w fun e w' => ∃ v0_ : Value, e = .returned (.tuple #[v0_, .int .i64 r2]) ∧ Kd.R k49 49 w' w.heap.size (fun _ => True) v0_ r1 ∧ Below w.heap.size w w' := by
 have HR0 := Aside0.mk hr0
 have HR1 := Aside0.mk hr1
 have HC0 := Aside0.mk hc0
 have HC1 := Aside0.mk hc1
 have HB := Aside0.mk (Below.refl w.heap.size w)
 have hm0 := Kd.C_max hr0
 have hm1 := Kd.C_max hr1
 clear hr0 hr1 hc0 hc1
 have hu43 := Try.underlying43
 unfold band_Run.f at h
 have hkk : mx (wrap64 ((l0.length : Int) - (l1.length : Int))) (wrap64 ((l1.length : Int) - (l0.length : Int))) = if l1.length ≤ l0.length then (l0.length : Int) - (l1.length : Int) else (l1.length : Int) - (l0.length : Int) := by
  unfold mx wrap64
  split <;> split <;> omega
 rw [hkk] at h
 clear hkk
 by_cases hle : l1.length ≤ l0.length
 all_goals
  first | rw [if_pos hle] at h | rw [if_neg hle] at h
  have H := Aside0.mk h
  clear h
  go_enter Try.func15, Try.ntmps15
  try dsimp only [List.append]
  go_wp2_with fail
  go_loopg [6, 7] k (fun kq v6 v7 w' => ∃ st kk : Int, v6 = .int .i64 st ∧ v7 = .int .i64 kk ∧ Aside0 (band_Run.l0 kq l0 l1 st kk = some (r1, r2)) ∧ Aside0 (kq ≤ k) ∧ Aside0 (Below w.heap.size w w'))
  case atStart => exact ⟨_, _, rfl, rfl, H, ⟨Nat.le_refl _⟩, HB⟩
  case round =>
   clear H HB hle
   obtain ⟨st, kk, rfl, rfl, HA, HK1, HB⟩ := hrel
   cases gk with
   | zero => exact absurd HA.out (by simp [band_Run.l0])
   | succ k1 =>
    have h := HA.out
    clear HA
    unfold band_Run.l0 at h
    rw [Option.bind_eq_some_iff] at h
    obtain ⟨c, hc, h⟩ := h
    rw [Option.bind_eq_some_iff] at h
    obtain ⟨⟨lo, hi, eok⟩, he, h⟩ := h
    by_cases hlt : l0.length < 1000000
    ·rw [if_pos hlt] at h
     rw [Option.bind_eq_some_iff] at h
     obtain ⟨⟨rows, last⟩, hg, h⟩ := h
     rw [Option.bind_eq_some_iff] at h
     obtain ⟨d, hd, h⟩ := h
     have AC := Aside0.mk hc
     have AE := Aside0.mk he
     have AG := Aside0.mk hg
     have AD := Aside0.mk hd
     have AH := Aside0.mk h
     clear hc he hg hd h
     go_wp2_with (first
      | (go_at_call 10; (with_reducible refine (band_Cells.calls k1 _ _ _ c _ AC.out).mono ?_); rintro e w1 ⟨rfl, hb⟩; have n0_ := Aside0.mk (below_step HB.out hb); clear HB hb; have HB := n0_; clear n0_)
      | (go_at_call 20; (with_reducible refine (band_edges.calls _ _ _ lo hi eok _ AE.out).mono ?_); rintro e w2 ⟨rfl, hb⟩; have n0_ := Aside0.mk (below_step HB.out hb); clear HB hb; have HB := n0_; clear n0_)
      | ((with_reducible refine gate_dst (N := 49) rfl ?_); refine Kd.N_make k43 w.heap.size 43 rfl (N' := 49) rfl 46 _ _ rfl ((l0.length : Int) + 1) rfl rfl Try.underlying46 (.agg #[.int .i64 0, .slice none 0 0]) 32 info43_ rfl (by decide) (by omega) z43 (ok := fun _ => True) (okp := fun _ => False) (FK43_zero _ _) (fun _ hk => hk.elim) trivial (by omega) (by omega) HB.out HB.out.size ?_; intro v3 w3 hN hb hg hnew; rw [show ((l0.length : Int) + 1).toNat = l0.length + 1 by omega] at hN; obtain ⟨G, cap, rfl, hGb, hGl, _⟩ := Kd.N_form hN (by simp); simp only [List.length_replicate] at hN; simp only [List.length_replicate]; clear HB hg hnew; have HB := Aside0.mk hb; have HN := Aside0.mk hN; have HGL := Aside0.mk hGl; have HGB := Aside0.mk hGb; (try clear hb); (try clear hN); (try clear hGl); (try clear hGb))
      | ((with_reducible refine gate_dst (N := 12) rfl ?_); refine box_event ?hg (N := 12) ?hd (cs := #[.int .i64 0, .slice none 0 0]) (t := 43) ?hr ?_; (case hd => rfl); (case hg => rfl); (case hr => first | (go_simp; done) | (go_simp; rfl)); intro gb hg w8 hbox hb; have n0_ := Aside0.mk (below_step HB.out hb); have BK := Aside0.mk hbox; have n1_ := Aside0.mk (Kd.N_mono (Kd.N_below (Kd.N_bound HN.out) hb) (ok' := fun k_ => k_ < gb) (fun k_ hk => by rw [hg]; exact hk.2)); have HGG := Aside0.mk (show G < gb by rw [hg]; exact HGL.out); have HBG := Aside0.mk (show w.heap.size ≤ gb by rw [hg]; exact HB.out.size); clear HB HN hb hbox hg; have HB := n0_; have HN := n1_; clear n0_ n1_))
     have hlen := l0.length
     go_loopw [52] (fun v w' => ∃ (i : Nat) (done : List S43) (last : S43) (u : Value), i ≤ l0.length + 1 ∧ v = .int .i64 i ∧ Aside0 (band_Run.g k1 l0 l1 lo hi i = some (done, last)) ∧ Aside0 (Kd.N k43 43 w' w.heap.size (fun k_ => k_ ≠ gb) (.slice (some ⟨G, 0, none⟩) (l0.length + 1) cap) (done ++ List.replicate (l0.length + 1 - i) z43)) ∧ Aside0 (Kd.V (Kd.int .i64) 3 w' 0 (fun k_ => k_ ≠ gb ∧ k_ ≠ G) u last.f1) ∧ Aside0 (w'.heap[gb]? = some (.cells #[.int .i64 last.f0, u] 43 (0, 0))) ∧ Aside0 (Below w.heap.size w w')) (fun v _ => l0.length + 1 - (intOf v).toNat)
     case atStart => exact ⟨0, [], z43, .slice none 0 0, by omega, rfl, ⟨rfl⟩, ⟨Kd.N_mono HN.out (fun k_ hk => by omega)⟩, ⟨Kd.V_nil _ _ _ _ _⟩, BK, HB⟩
     case round =>
      clear HN HB BK hlen
      obtain ⟨i, done, last, u, hi1, rfl, AGi, HN, HV, BK, HB⟩ := hrel
      have hdl : done.length = i := band_Run.g_len AGi.out
      by_cases hlt2 : i < l0.length + 1
      ·obtain ⟨q, hq⟩ := band_Run.g_ahead (m := i + 1) (d := l0.length - i) (by omega) AG.out
       have hq0 := hq
       unfold band_Run.g at hq
       rw [Option.bind_eq_some_iff] at hq
       obtain ⟨p, hp, hq⟩ := hq
       rw [AGi.out] at hp
       cases hp
       rw [Option.bind_eq_some_iff] at hq
       obtain ⟨⟨f, fs⟩, hn, hq⟩ := hq
       cases hq
       have AN := Aside0.mk hn
       have AQ := Aside0.mk hq0
       clear hn hq0
       have hcz0 : wr.cell? ⟨gb, 0, none⟩ = some (.int .i64 last.f0) := (blk_cell BK.out 0).trans rfl
       have hcz1 : wr.cell? ⟨gb, 1, none⟩ = some u := (blk_cell BK.out 1).trans rfl
       obtain ⟨Au, cu, rfl⟩ := Kd.V_slice HV.out
       have hgl := Aside0.mk (blk_lt BK.out)
       have hGg : ¬ G = gb := by have := HGG.out; omega
       have hgG : ¬ gb = G := by have := HGG.out; omega
       have gi0 : (0 : Int) ≤ (i : Int) := by omega
       have gi1 : (i : Int) < ((l0.length + 1 : Nat) : Int) := by omega
       have hset := Aside0.mk (set_next done ⟨f, fs⟩ z43 (l0.length + 1) i hdl hlt2)
       go_wp2_with (first
        | (go_at_call 22; ((with_reducible refine (band_next.calls k1 _ _ l0 _ _ l1 (i : Int) lo hi last.f0 _ _ last.f1 f fs _ (Kd.C_below HR0.out HB.out) HC0.out (Kd.C_below HR1.out HB.out) HC1.out (Kd.V_reads' HV.out).2.2 (Kd.V_reads' HV.out).2.1 AN.out).mono ?_); rintro e w4 ⟨v4, rfl, ho, hb⟩; obtain ⟨A4, c4, rfl⟩ := Kd.R_slice ho; have n0_ := Aside0.mk (below_step HB.out hb); have n1_ := Aside0.mk (Kd.N_below HN.out hb); have n2_ := Aside0.mk (blk_below BK.out hb); have n3_ := Aside0.mk (Kd.V_mono (base := 0) (Kd.R_V (base' := 0) (Kd.R_bound ho)) (ok' := fun k_ => k_ ≠ gb ∧ k_ ≠ G) (fun k_ hk => by have := hk.2.1; have := hgl.out; have := HGG.out; omega)); clear HB HN BK HV ho hb hcz0 hcz1; have HB := n0_; have HN := n1_; have BK := n2_; have HV := n3_; clear n0_ n1_ n2_ n3_; have hcz0 := (blk_cell BK.out 0).trans rfl; have hcz1 := (blk_cell BK.out 1).trans rfl; have hfz0 := blk_frozen BK.out 0; have hfz1 := blk_frozen BK.out 1; obtain ⟨c_, hcl, _, hcc, hfr⟩ := Kd.N_elem HN.out z43 (i : Int) (by omega) (by omega); obtain ⟨p0, p1, rfl⟩ := two_of hcl; have hx0 : w4.cell? ⟨G, i * 2, none⟩ = some p0 := hcc 0 p0 rfl; have hx1 : w4.cell? ⟨G, i * 2 + 1, none⟩ = some p1 := hcc 1 p1 rfl; have hf0 : w4.frozen? ⟨G, i * 2, none⟩ = false := hfr 0; have hf1 : w4.frozen? ⟨G, i * 2 + 1, none⟩ = false := hfr 1; (try clear hcc); (try clear hfr); (try clear hcl))))
       go_roundw
       case rel =>
        have hN2 := Kd.N_far (p := ⟨gb, 1, none⟩) (Kd.N_far (p := ⟨gb, 0, none⟩) HN.out (fun _ hk => hk) (.int .i64 f)) (fun _ hk => hk) (.slice A4 fs.length c4)
        have hV2 := Kd.V_far (p := ⟨gb, 1, none⟩) (Kd.V_far (p := ⟨gb, 0, none⟩) HV.out (fun _ hk => hk.1) (.int .i64 f)) (fun _ hk => hk.1) (.slice A4 fs.length c4)
        have hK2 := blk_put (cs' := #[.int .i64 f, .slice A4 fs.length c4]) (blk_put (cs' := #[.int .i64 f, .slice Au last.f1.length cu]) BK.out 0 (.int .i64 f) rfl) 1 (.slice A4 fs.length c4) rfl
        have hB2 := below_set (j := 1) (v := .slice A4 fs.length c4) (below_set (j := 0) (v := .int .i64 f) HB.out HBG.out) HBG.out
        obtain ⟨c_, hcl, _, hcc, _⟩ := Kd.N_elem hN2 z43 (i : Int) (by omega) (by omega)
        have hS := Kd.N_seg hN2 (i : Int) (by omega) (by omega) (seg := [.int .i64 f, .slice A4 fs.length c4]) (j := 0) (x' := ⟨f, fs⟩) (okp := fun k_ => k_ ≠ gb ∧ k_ ≠ G) hcl hcc (Nat.le_refl 2) (by
         have e : c_.take 0 ++ [.int .i64 f, .slice A4 fs.length c4] ++ c_.drop (0 + 2) = [.int .i64 f, .slice A4 fs.length c4] := by
          obtain ⟨p0, p1, rfl⟩ := two_of hcl
          rfl
         rw [show [Value.int .i64 f, .slice A4 fs.length c4].length = 2 from rfl, e]
         exact FK43_of_V (x := ⟨f, fs⟩) hV2) (fun _ hk => hk)
        rw [Int.toNat_natCast, hset.out] at hS
        have hS : Kd.N k43 43 ((((w4.setCell ⟨gb, 0, none⟩ (.int .i64 f)).setCell ⟨gb, 1, none⟩ (.slice A4 fs.length c4)).setCell ⟨G, i * 2, none⟩ (.int .i64 f)).setCell ⟨G, i * 2 + 1, none⟩ (.slice A4 fs.length c4)) w.heap.size (fun k_ => k_ ≠ gb) (.slice (some ⟨G, 0, none⟩) (l0.length + 1) cap) (done ++ [⟨f, fs⟩] ++ List.replicate (l0.length + 1 - (i + 1)) z43) ∧ World.grownBy ((w4.setCell ⟨gb, 0, none⟩ (.int .i64 f)).setCell ⟨gb, 1, none⟩ (.slice A4 fs.length c4)) ((((w4.setCell ⟨gb, 0, none⟩ (.int .i64 f)).setCell ⟨gb, 1, none⟩ (.slice A4 fs.length c4)).setCell ⟨G, i * 2, none⟩ (.int .i64 f)).setCell ⟨G, i * 2 + 1, none⟩ (.slice A4 fs.length c4)) (some G) := hS
        refine ⟨i + 1, done ++ [⟨f, fs⟩], ⟨f, fs⟩, .slice A4 fs.length c4, by omega, by go_num, AQ, ⟨hS.1⟩, ⟨Kd.V_grown hV2 hS.2 (fun k_ hk e_ => hk.2 (by injection e_))⟩, ⟨blk_grown hK2 hS.2 (fun e_ => by injection e_ with e_; have := HGG.out; omega)⟩, ⟨hB2.grown hS.2 (hB2.size) (fun k_ e_ => by cases e_; exact HGB.out)⟩⟩
       case measure => simp [intOf]; omega
      ·obtain rfl : i = l0.length + 1 := by omega
       have hgg := AG.out.symm.trans AGi.out
       simp only [Option.some.injEq, Prod.mk.injEq] at hgg
       obtain ⟨rfl, rfl⟩ := hgg
       have HN := Aside0.mk (show Kd.N k43 43 wr w.heap.size (fun k_ => k_ ≠ gb) (.slice (some ⟨G, 0, none⟩) (l0.length + 1) cap) rows by have := HN.out; rwa [Nat.sub_self, List.replicate_zero, List.append_nil] at this)
       have hcz0 : wr.cell? ⟨gb, 0, none⟩ = some (.int .i64 last.f0) := (blk_cell BK.out 0).trans rfl
       have hcz1 : wr.cell? ⟨gb, 1, none⟩ = some u := (blk_cell BK.out 1).trans rfl
       obtain ⟨Au, cu, rfl⟩ := Kd.V_slice HV.out
       have hge : l0.length + 1 ≤ rows.length := by omega
       rw [← hdl] at HN ⊢
       clear hdl
       by_cases hdk : d ≤ kk
       ·have h := AH.out
        rw [if_pos hdk, Option.bind_eq_some_iff] at h
        obtain ⟨b, hbk, h⟩ := h
        simp only [Option.some.injEq, Prod.mk.injEq] at h
        obtain ⟨rfl, rfl⟩ := h
        have AB := Aside0.mk hbk
        clear hbk AH
        have hdd : decide (d ≤ kk) = true := decide_eq_true hdk
        go_wp2_with (first
         | (go_at_call 23; ((with_reducible refine (band_line_at.calls last.f0 _ _ last.f1 (l1.length : Int) d _ (Kd.V_reads' HV.out).2.2 (Kd.V_reads' HV.out).2.1 AD.out).mono ?_); rintro e w6 ⟨rfl, hb⟩; have n0_ := Aside0.mk (below_step HB.out hb); have n1_ := Aside0.mk (Kd.N_below HN.out hb); clear HB HN hb; have HB := n0_; have HN := n1_; clear n0_ n1_))
         | (go_at_call 24; ((with_reducible refine (band_back.calls k1 _ _ l0 _ _ l1 _ _ rows b _ (Kd.C_below HR0.out HB.out) HC0.out (Kd.C_below HR1.out HB.out) HC1.out (Kd.N_reads' HN.out).2.2 (Kd.N_reads' HN.out).2.1 AB.out).mono ?_); rintro e w7 ⟨v7, rfl, ho, hb⟩; have n0_ := Aside0.mk (below_step HB.out hb); have HO := Aside0.mk (Kd.R_lower ho HB.out.size); clear HB ho hb; have HB := n0_; clear n0_)))
        go_ret2
        exact ⟨v7, rfl, HO.out, HB.out⟩
       ·have h := AH.out
        rw [if_neg hdk] at h
        have AH2 := Aside0.mk h
        clear h AH
        have hdd : decide (d ≤ kk) = false := decide_eq_false hdk
        go_wp2_with (first
         | (go_at_call 23; ((with_reducible refine (band_line_at.calls last.f0 _ _ last.f1 (l1.length : Int) d _ (Kd.V_reads' HV.out).2.2 (Kd.V_reads' HV.out).2.1 AD.out).mono ?_); rintro e w6 ⟨rfl, hb⟩; have n0_ := Aside0.mk (below_step HB.out hb); clear HB hb; have HB := n0_; clear n0_)))
        go_roundg k1
        case measure => have := HK1.out; omega
        case rel => exact ⟨_, _, rfl, rfl, AH2, ⟨by have := HK1.out; omega⟩, HB⟩
    ·rw [if_neg hlt] at h
     cases h

/-! ### tattingref7_Good: function 16 -/
mutual
def tattingref7_Good.l0 : Nat → List Int → List Int → List (S49) → Int → Option (Bool)
 | 0, _, _, _, _ => none
 | k + 1, x0, x1, x2, x7 => if x7 < (x2.length : Int) then (if 0 ≤ x7 then (if ((rd_T49 x2 x7).f0) < 0 then (tattingref7_Good.j1 k x0 x1 x2 x7 true ((rd_T49 x2 x7).f0) ((rd_T49 x2 x7).f1)) else (if ((rd_T49 x2 x7).f0) ≥ (x0.length : Int) then (tattingref7_Good.j1 k x0 x1 x2 x7 true ((rd_T49 x2 x7).f0) ((rd_T49 x2 x7).f1)) else (if ((rd_T49 x2 x7).f1) < 0 then (tattingref7_Good.j1 k x0 x1 x2 x7 true ((rd_T49 x2 x7).f0) ((rd_T49 x2 x7).f1)) else (if ((rd_T49 x2 x7).f1) ≥ (x1.length : Int) then (tattingref7_Good.j1 k x0 x1 x2 x7 true ((rd_T49 x2 x7).f0) ((rd_T49 x2 x7).f1)) else (if 0 ≤ ((rd_T49 x2 x7).f0) then (if ((rd_T49 x2 x7).f0) < (x0.length : Int) then (if 0 ≤ ((rd_T49 x2 x7).f1) then (if ((rd_T49 x2 x7).f1) < (x1.length : Int) then (tattingref7_Good.j1 k x0 x1 x2 x7 ((rd x0 ((rd_T49 x2 x7).f0)) != (rd x1 ((rd_T49 x2 x7).f1))) ((rd_T49 x2 x7).f0) ((rd_T49 x2 x7).f1)) else (none)) else (none)) else (none)) else (none)))))) else (none)) else (some true)
def tattingref7_Good.j1 : Nat → List Int → List Int → List (S49) → Int → Bool → Int → Int → Option (Bool)
 | 0, _, _, _, _, _, _, _ => none
 | k + 1, x0, x1, x2, x7, x53, x223000, x223001 => if x53 = true then (some false) else (if x7 > 0 then (if 0 ≤ (wrap64 (x7 - 1)) then (if (wrap64 (x7 - 1)) < (x2.length : Int) then (if x223000 ≤ ((rd_T49 x2 (wrap64 (x7 - 1))).f0) then (some false) else (if x223001 ≤ ((rd_T49 x2 (wrap64 (x7 - 1))).f1) then (some false) else (tattingref7_Good.l0 k x0 x1 x2 (wrap64 (x7 + 1))))) else (none)) else (none)) else (tattingref7_Good.l0 k x0 x1 x2 (wrap64 (x7 + 1))))
end
def tattingref7_Good.f (k : Nat) (l0 : List Int) (l1 : List Int) (l2 : List (S49)) : Option (Bool) := tattingref7_Good.l0 k l0 l1 l2 0
theorem tattingref7_Good.mono_l : ∀ k, (∀ y0 y1 y2 y3, LeO (tattingref7_Good.l0 k y0 y1 y2 y3) (tattingref7_Good.l0 (k + 1) y0 y1 y2 y3)) ∧ (∀ y0 y1 y2 y3 y4 y5 y6, LeO (tattingref7_Good.j1 k y0 y1 y2 y3 y4 y5 y6) (tattingref7_Good.j1 (k + 1) y0 y1 y2 y3 y4 y5 y6))
 | 0 => ⟨fun _ _ _ _ r h => by simp [tattingref7_Good.l0] at h, fun _ _ _ _ _ _ _ r h => by simp [tattingref7_Good.j1] at h⟩
 | k + 1 => by
  obtain ⟨ih0, ih1⟩ := tattingref7_Good.mono_l k
  refine ⟨?_, ?_⟩
  ·intro y0 y1 y2 y3
   unfold tattingref7_Good.l0
   repeat' first
   | (with_reducible exact ih0 _ _ _ _)
   | (with_reducible exact ih1 _ _ _ _ _ _ _)
   | (with_reducible exact LeO.refl _)
   | (with_reducible exact LeO.none _)
   | (with_reducible refine LeO.ite ?_ ?_)
   | (with_reducible refine LeO.bind ?_ (fun _ => ?_))
   | exact ih0 _ _ _ _
   | exact ih1 _ _ _ _ _ _ _
   | exact LeO.none _
   | refine LeO.ite ?_ ?_
   | refine LeO.bind ?_ (fun _ => ?_)
  ·intro y0 y1 y2 y3 y4 y5 y6
   unfold tattingref7_Good.j1
   repeat' first
   | (with_reducible exact ih0 _ _ _ _)
   | (with_reducible exact ih1 _ _ _ _ _ _ _)
   | (with_reducible exact LeO.refl _)
   | (with_reducible exact LeO.none _)
   | (with_reducible refine LeO.ite ?_ ?_)
   | (with_reducible refine LeO.bind ?_ (fun _ => ?_))
   | exact ih0 _ _ _ _
   | exact ih1 _ _ _ _ _ _ _
   | exact LeO.none _
   | refine LeO.ite ?_ ?_
   | refine LeO.bind ?_ (fun _ => ?_)
theorem tattingref7_Good.mono : ∀ a0 a1 a2 k, LeO (tattingref7_Good.f k a0 a1 a2) (tattingref7_Good.f (k + 1) a0 a1 a2) := by
 intro a0 a1 a2 k
 obtain ⟨ih0, ih1⟩ := tattingref7_Good.mono_l k
 unfold tattingref7_Good.f
 repeat' first
   | (with_reducible exact ih0 _ _ _ _)
   | (with_reducible exact ih1 _ _ _ _ _ _ _)
   | (with_reducible exact LeO.refl _)
   | (with_reducible exact LeO.none _)
   | (with_reducible refine LeO.ite ?_ ?_)
   | (with_reducible refine LeO.bind ?_ (fun _ => ?_))
   | exact ih0 _ _ _ _
   | exact ih1 _ _ _ _ _ _ _
   | exact LeO.none _
   | refine LeO.ite ?_ ?_
   | refine LeO.bind ?_ (fun _ => ?_)
set_option maxHeartbeats 8000000 in
set_option maxRecDepth 100000 in
theorem tattingref7_Good.calls (k : Nat) (A0 : Option Addr) (c0 : Nat) (l0 : List Int) (A1 : Option Addr) (c1 : Nat) (l1 : List Int) (A2 : Option Addr) (c2 : Nat) (l2 : List (S49)) (r : Bool) (w : World) (hr0 : Kd.C (Kd.int .i64) w A0 l0.length l0) (hc0 : l0.length ≤ c0) (hr1 : Kd.C (Kd.int .i64) w A1 l1.length l1) (hc1 : l1.length ≤ c1) (hr2 : Kd.C k49 w A2 l2.length l2) (hc2 : l2.length ≤ c2) (h : tattingref7_Good.f k l0 l1 l2 = some r) :
  Calls Try.prog 16 #[.slice A0 l0.length c0, .slice A1 l1.length c1, .slice A2 l2.length c2] w fun e w' => e = .returned (.bool r) ∧ Below w.heap.size w w' := by
 have hu49 := Try.underlying49
 have HR0 := Aside0.mk hr0
 have HC0 := Aside0.mk hc0
 clear hr0 hc0
 have HR1 := Aside0.mk hr1
 have HC1 := Aside0.mk hc1
 clear hr1 hc1
 have HR2 := Aside0.mk hr2
 have HC2 := Aside0.mk hc2
 clear hr2 hc2
 have HB := Aside0.mk (Below.refl w.heap.size w)
 have H : (tattingref7_Good.l0 k l0 l1 l2 0) = some r := h
 clear h
 have H' := Aside0.mk H
 clear H
 go_enter Try.func16, Try.ntmps16
 try dsimp only [List.append]
 go_wp2
 repeat (go_quiet (fail); try go_wp2)
 go_loopg [7] k (fun kq v7 w' => ∃ (x7_1 : Int), v7 = .int .i64 x7_1 ∧ Aside0 (tattingref7_Good.l0 kq l0 l1 l2 x7_1 = some r) ∧ Aside0 (kq ≤ k) ∧ Aside0 (Below w.heap.size w w'))
 case atStart => exact ⟨(0), (by first | rfl | (simp; done) | (simp [*]; done)), H', ⟨Nat.le_refl _⟩, ⟨by repeat (first | (with_reducible first | exact HB.out | apply below_alloc | apply pw_below_drewN | apply below_drew1) | exact HB.out)⟩⟩
 case round =>
  clear H'
  try clear c1
  try clear c2
  try clear p2
  obtain ⟨x7_1, rfl, HA, HK1, HB⟩ := hrel
  cases gk with
  | zero => exact absurd HA.out (by simp [tattingref7_Good.l0])
  | succ k1 =>
   have H := HA.out
   clear HA
   simp only [tattingref7_Good.l0] at H
   by_cases c4 : x7_1 < (l2.length : Int)
   ·rw [if_pos c4] at H
    have c4b0 : decide (x7_1 < (l2.length : Int)) = true := decide_eq_true c4
    clear c4
    by_cases c5 : 0 ≤ x7_1
    ·rw [if_pos c5] at H
     have c5b0 : decide (0 ≤ x7_1) = true := decide_eq_true c5
     clear c5
     have HC6 := Aside0.mk H
     clear H
     have p221 : 0 ≤ (x7_1 : Int) := of_decide_eq_true (by first | (with_reducible assumption) | assumption)
     have q221 : x7_1 < (l2.length : Int) := of_decide_eq_true (by first | (with_reducible assumption) | assumption)
     obtain ⟨ad221, e221, hx221_0, hx221_1⟩ := at_T49 HR2.out x7_1 p221 q221
     cases e221
     replace hx221_0 := (HB.out.cell (World.block_lt_of_cell? w _ hx221_0)).trans hx221_0
     replace hx221_1 := (HB.out.cell (World.block_lt_of_cell? w _ hx221_1)).trans hx221_1
     replace p221 := eq_true p221
     replace q221 := eq_true q221
     go_upto_region 5 with (first | ((with_reducible refine gate_dst (N := 8) rfl ?_); (try (refine gate_guard (by rfl) ?_; dsimp only)); refine box_event ?hg (N := 8) ?hd (cs := #[.int .i64 0, .int .i64 0]) (t := 49) ?hr ?_; (case hd => rfl); (case hg => rfl); (case hr => first | (go_simp; done) | (go_simp; rfl)); intro gb222 hg w7 hbox hb; have n0_ := Aside0.mk (below_step (by repeat (first | (with_reducible first | exact HB.out | apply below_alloc | apply pw_below_drewN | apply below_drew1) | exact HB.out)) hb); have n1_ := Aside0.mk (hbox); have n2_ := Aside0.mk ((by rw [hg]; exact (below_size (by repeat (first | (with_reducible first | exact HB.out | apply below_alloc | apply pw_below_drewN | apply below_drew1) | exact HB.out))) : w.heap.size ≤ gb222)); have n3_ := Aside0.mk ((by rw [hg]; exact (below_size (by repeat (first | (with_reducible first | exact HB.out | apply below_alloc | apply pw_below_drewN | apply below_drew1) | exact HB.out))) : w.heap.size ≤ gb222)); clear HB; have HB := n0_; have BK222 := n1_; have GW222 := n2_; have GE222 := n3_; clear n0_ n1_ n2_ n3_; (try clear hb); (try clear hbox); (try clear hg); have hcz8_0 : w7.cell? ⟨gb222, 0, none⟩ = some (.int .i64 0) := (blk_cell BK222.out 0).trans rfl; have hcz8_1 : w7.cell? ⟨gb222, 1, none⟩ = some (.int .i64 0) := (blk_cell BK222.out 1).trans rfl; have hfz8_0 := blk_frozen BK222.out 0; have hfz8_1 := blk_frozen BK222.out 1))
     repeat (go_quiet (first | ((with_reducible refine gate_dst (N := 8) rfl ?_); (try (refine gate_guard (by rfl) ?_; dsimp only)); refine box_event ?hg (N := 8) ?hd (cs := #[.int .i64 0, .int .i64 0]) (t := 49) ?hr ?_; (case hd => rfl); (case hg => rfl); (case hr => first | (go_simp; done) | (go_simp; rfl)); intro gb222 hg w7 hbox hb; have n0_ := Aside0.mk (below_step (by repeat (first | (with_reducible first | exact HB.out | apply below_alloc | apply pw_below_drewN | apply below_drew1) | exact HB.out)) hb); have n1_ := Aside0.mk (hbox); have n2_ := Aside0.mk ((by rw [hg]; exact (below_size (by repeat (first | (with_reducible first | exact HB.out | apply below_alloc | apply pw_below_drewN | apply below_drew1) | exact HB.out))) : w.heap.size ≤ gb222)); have n3_ := Aside0.mk ((by rw [hg]; exact (below_size (by repeat (first | (with_reducible first | exact HB.out | apply below_alloc | apply pw_below_drewN | apply below_drew1) | exact HB.out))) : w.heap.size ≤ gb222)); clear HB; have HB := n0_; have BK222 := n1_; have GW222 := n2_; have GE222 := n3_; clear n0_ n1_ n2_ n3_; (try clear hb); (try clear hbox); (try clear hg); have hcz8_0 : w7.cell? ⟨gb222, 0, none⟩ = some (.int .i64 0) := (blk_cell BK222.out 0).trans rfl; have hcz8_1 : w7.cell? ⟨gb222, 1, none⟩ = some (.int .i64 0) := (blk_cell BK222.out 1).trans rfl; have hfz8_0 := blk_frozen BK222.out 0; have hfz8_1 := blk_frozen BK222.out 1)); go_upto_region 5 with (first | ((with_reducible refine gate_dst (N := 8) rfl ?_); (try (refine gate_guard (by rfl) ?_; dsimp only)); refine box_event ?hg (N := 8) ?hd (cs := #[.int .i64 0, .int .i64 0]) (t := 49) ?hr ?_; (case hd => rfl); (case hg => rfl); (case hr => first | (go_simp; done) | (go_simp; rfl)); intro gb222 hg w7 hbox hb; have n0_ := Aside0.mk (below_step (by repeat (first | (with_reducible first | exact HB.out | apply below_alloc | apply pw_below_drewN | apply below_drew1) | exact HB.out)) hb); have n1_ := Aside0.mk (hbox); have n2_ := Aside0.mk ((by rw [hg]; exact (below_size (by repeat (first | (with_reducible first | exact HB.out | apply below_alloc | apply pw_below_drewN | apply below_drew1) | exact HB.out))) : w.heap.size ≤ gb222)); have n3_ := Aside0.mk ((by rw [hg]; exact (below_size (by repeat (first | (with_reducible first | exact HB.out | apply below_alloc | apply pw_below_drewN | apply below_drew1) | exact HB.out))) : w.heap.size ≤ gb222)); clear HB; have HB := n0_; have BK222 := n1_; have GW222 := n2_; have GE222 := n3_; clear n0_ n1_ n2_ n3_; (try clear hb); (try clear hbox); (try clear hg); have hcz8_0 : w7.cell? ⟨gb222, 0, none⟩ = some (.int .i64 0) := (blk_cell BK222.out 0).trans rfl; have hcz8_1 : w7.cell? ⟨gb222, 1, none⟩ = some (.int .i64 0) := (blk_cell BK222.out 1).trans rfl; have hfz8_0 := blk_frozen BK222.out 0; have hfz8_1 := blk_frozen BK222.out 1)))
     (try simp only [Act.put, sA,sB,sC])
     go_cut [53] (fun v53 wc => ∃ (kq : Nat) (x53_5 : Bool), v53 = .bool x53_5 ∧ Aside0 (tattingref7_Good.j1 kq l0 l1 l2 x7_1 x53_5 ((rd_T49 l2 x7_1).f0) ((rd_T49 l2 x7_1).f1) = some r) ∧ Aside0 (kq ≤ k1) ∧ Aside0 (wc.heap[gb222]? = some (.cells #[.int .i64 ((rd_T49 l2 x7_1).f0), .int .i64 ((rd_T49 l2 x7_1).f1)] 49 (0, 0))) ∧ Aside0 (Below w.heap.size w wc))
     case first =>
      have H := HC6.out
      clear HC6
      by_cases c9 : ((rd_T49 l2 x7_1).f0) < 0
      ·rw [if_pos c9] at H
       have c9b0 : decide (((rd_T49 l2 x7_1).f0) < 0) = true := decide_eq_true c9
       clear c9
       (first | rw [c9b0] | (simp only [i64_w, i32_w]; rw [c9b0]) | skip)
       have H' := Aside0.mk H
       clear H
       have hcz10_0 : w7.cell? ⟨gb222, 0, none⟩ = some (.int .i64 0) := (blk_cell BK222.out 0).trans rfl
       have hcz10_1 : w7.cell? ⟨gb222, 1, none⟩ = some (.int .i64 0) := (blk_cell BK222.out 1).trans rfl
       have hfz10_0 := blk_frozen BK222.out 0
       have hfz10_1 := blk_frozen BK222.out 1
       go_wp2
       repeat (go_quiet (fail); try go_wp2)
       go_meet
       case rel => exact ⟨_, (true), (by first | rfl | (simp; done) | (simp [*]; done)), H', ⟨by have := HK1.out; first | omega | exact Nat.le_refl _⟩, ⟨by (with_reducible repeat (first | refine blk_drewN ?_ _ | refine blk_drew ?_ | refine blk_alloc ?_ _)); refine blk_put (cs := #[.int .i64 ((rd_T49 l2 x7_1).f0), .int .i64 0]) ?_ 1 _ rfl; (with_reducible repeat (first | refine blk_drewN ?_ _ | refine blk_drew ?_ | refine blk_alloc ?_ _)); refine blk_put (cs := #[.int .i64 0, .int .i64 0]) ?_ 0 _ rfl; (with_reducible repeat (first | refine blk_drewN ?_ _ | refine blk_drew ?_ | refine blk_alloc ?_ _)); exact BK222.out⟩, ⟨by repeat (first | (with_reducible first | exact HB.out | apply below_alloc | apply pw_below_drewN | apply below_drew1 | refine below_set ?_ GE222.out) | exact HB.out)⟩⟩
      ·rw [if_neg c9] at H
       have c9b0 : decide (((rd_T49 l2 x7_1).f0) < 0) = false := decide_eq_false c9
       clear c9
       (first | rw [c9b0] | (simp only [i64_w, i32_w]; rw [c9b0]) | skip)
       by_cases c11 : ((rd_T49 l2 x7_1).f0) ≥ (l0.length : Int)
       ·rw [if_pos c11] at H
        have c11b0 : decide ((l0.length : Int) ≤ ((rd_T49 l2 x7_1).f0)) = true := decide_eq_true c11
        clear c11
        have H' := Aside0.mk H
        clear H
        have hcz12_0 : w7.cell? ⟨gb222, 0, none⟩ = some (.int .i64 0) := (blk_cell BK222.out 0).trans rfl
        have hcz12_1 : w7.cell? ⟨gb222, 1, none⟩ = some (.int .i64 0) := (blk_cell BK222.out 1).trans rfl
        have hfz12_0 := blk_frozen BK222.out 0
        have hfz12_1 := blk_frozen BK222.out 1
        go_wp2
        repeat (go_quiet (fail); try go_wp2)
        go_meet
        case rel => exact ⟨_, (true), (by first | rfl | (simp; done) | (simp [*]; done)), H', ⟨by have := HK1.out; first | omega | exact Nat.le_refl _⟩, ⟨by (with_reducible repeat (first | refine blk_drewN ?_ _ | refine blk_drew ?_ | refine blk_alloc ?_ _)); refine blk_put (cs := #[.int .i64 ((rd_T49 l2 x7_1).f0), .int .i64 0]) ?_ 1 _ rfl; (with_reducible repeat (first | refine blk_drewN ?_ _ | refine blk_drew ?_ | refine blk_alloc ?_ _)); refine blk_put (cs := #[.int .i64 0, .int .i64 0]) ?_ 0 _ rfl; (with_reducible repeat (first | refine blk_drewN ?_ _ | refine blk_drew ?_ | refine blk_alloc ?_ _)); exact BK222.out⟩, ⟨by repeat (first | (with_reducible first | exact HB.out | apply below_alloc | apply pw_below_drewN | apply below_drew1 | refine below_set ?_ GE222.out) | exact HB.out)⟩⟩
       ·rw [if_neg c11] at H
        have c11b0 : decide ((l0.length : Int) ≤ ((rd_T49 l2 x7_1).f0)) = false := decide_eq_false c11
        clear c11
        by_cases c13 : ((rd_T49 l2 x7_1).f1) < 0
        ·rw [if_pos c13] at H
         have c13b0 : decide (((rd_T49 l2 x7_1).f1) < 0) = true := decide_eq_true c13
         clear c13
         have H' := Aside0.mk H
         clear H
         have hcz14_0 : w7.cell? ⟨gb222, 0, none⟩ = some (.int .i64 0) := (blk_cell BK222.out 0).trans rfl
         have hcz14_1 : w7.cell? ⟨gb222, 1, none⟩ = some (.int .i64 0) := (blk_cell BK222.out 1).trans rfl
         have hfz14_0 := blk_frozen BK222.out 0
         have hfz14_1 := blk_frozen BK222.out 1
         go_wp2
         repeat (go_quiet (fail); try go_wp2)
         go_meet
         case rel => exact ⟨_, (true), (by first | rfl | (simp; done) | (simp [*]; done)), H', ⟨by have := HK1.out; first | omega | exact Nat.le_refl _⟩, ⟨by (with_reducible repeat (first | refine blk_drewN ?_ _ | refine blk_drew ?_ | refine blk_alloc ?_ _)); refine blk_put (cs := #[.int .i64 ((rd_T49 l2 x7_1).f0), .int .i64 0]) ?_ 1 _ rfl; (with_reducible repeat (first | refine blk_drewN ?_ _ | refine blk_drew ?_ | refine blk_alloc ?_ _)); refine blk_put (cs := #[.int .i64 0, .int .i64 0]) ?_ 0 _ rfl; (with_reducible repeat (first | refine blk_drewN ?_ _ | refine blk_drew ?_ | refine blk_alloc ?_ _)); exact BK222.out⟩, ⟨by repeat (first | (with_reducible first | exact HB.out | apply below_alloc | apply pw_below_drewN | apply below_drew1 | refine below_set ?_ GE222.out) | exact HB.out)⟩⟩
        ·rw [if_neg c13] at H
         have c13b0 : decide (((rd_T49 l2 x7_1).f1) < 0) = false := decide_eq_false c13
         clear c13
         by_cases c15 : ((rd_T49 l2 x7_1).f1) ≥ (l1.length : Int)
         ·rw [if_pos c15] at H
          have c15b0 : decide ((l1.length : Int) ≤ ((rd_T49 l2 x7_1).f1)) = true := decide_eq_true c15
          clear c15
          have H' := Aside0.mk H
          clear H
          have hcz16_0 : w7.cell? ⟨gb222, 0, none⟩ = some (.int .i64 0) := (blk_cell BK222.out 0).trans rfl
          have hcz16_1 : w7.cell? ⟨gb222, 1, none⟩ = some (.int .i64 0) := (blk_cell BK222.out 1).trans rfl
          have hfz16_0 := blk_frozen BK222.out 0
          have hfz16_1 := blk_frozen BK222.out 1
          go_wp2
          repeat (go_quiet (fail); try go_wp2)
          go_meet
          case rel => exact ⟨_, (true), (by first | rfl | (simp; done) | (simp [*]; done)), H', ⟨by have := HK1.out; first | omega | exact Nat.le_refl _⟩, ⟨by (with_reducible repeat (first | refine blk_drewN ?_ _ | refine blk_drew ?_ | refine blk_alloc ?_ _)); refine blk_put (cs := #[.int .i64 ((rd_T49 l2 x7_1).f0), .int .i64 0]) ?_ 1 _ rfl; (with_reducible repeat (first | refine blk_drewN ?_ _ | refine blk_drew ?_ | refine blk_alloc ?_ _)); refine blk_put (cs := #[.int .i64 0, .int .i64 0]) ?_ 0 _ rfl; (with_reducible repeat (first | refine blk_drewN ?_ _ | refine blk_drew ?_ | refine blk_alloc ?_ _)); exact BK222.out⟩, ⟨by repeat (first | (with_reducible first | exact HB.out | apply below_alloc | apply pw_below_drewN | apply below_drew1 | refine below_set ?_ GE222.out) | exact HB.out)⟩⟩
         ·rw [if_neg c15] at H
          have c15b0 : decide ((l1.length : Int) ≤ ((rd_T49 l2 x7_1).f1)) = false := decide_eq_false c15
          clear c15
          by_cases c17 : 0 ≤ ((rd_T49 l2 x7_1).f0)
          ·rw [if_pos c17] at H
           have c17b0 : decide (0 ≤ ((rd_T49 l2 x7_1).f0)) = true := decide_eq_true c17
           clear c17
           by_cases c18 : ((rd_T49 l2 x7_1).f0) < (l0.length : Int)
           ·rw [if_pos c18] at H
            have c18b0 : decide (((rd_T49 l2 x7_1).f0) < (l0.length : Int)) = true := decide_eq_true c18
            clear c18
            by_cases c19 : 0 ≤ ((rd_T49 l2 x7_1).f1)
            ·rw [if_pos c19] at H
             have c19b0 : decide (0 ≤ ((rd_T49 l2 x7_1).f1)) = true := decide_eq_true c19
             clear c19
             by_cases c20 : ((rd_T49 l2 x7_1).f1) < (l1.length : Int)
             ·rw [if_pos c20] at H
              have c20b0 : decide (((rd_T49 l2 x7_1).f1) < (l1.length : Int)) = true := decide_eq_true c20
              clear c20
              have H' := Aside0.mk H
              clear H
              have hcz21_0 : w7.cell? ⟨gb222, 0, none⟩ = some (.int .i64 0) := (blk_cell BK222.out 0).trans rfl
              have hcz21_1 : w7.cell? ⟨gb222, 1, none⟩ = some (.int .i64 0) := (blk_cell BK222.out 1).trans rfl
              have hfz21_0 := blk_frozen BK222.out 0
              have hfz21_1 := blk_frozen BK222.out 1
              have p223 : 0 ≤ (((rd_T49 l2 x7_1).f0) : Int) := of_decide_eq_true (by first | (with_reducible assumption) | assumption)
              have q223 : ((rd_T49 l2 x7_1).f0) < (l0.length : Int) := of_decide_eq_true (by first | (with_reducible assumption) | assumption)
              obtain ⟨ad223, e223, hx223_0⟩ := Kd.at_int HR0.out ((rd_T49 l2 x7_1).f0) p223 q223
              cases e223
              have hn223_0 : ad223.block ≠ gb222 := Nat.ne_of_lt (Nat.lt_of_lt_of_le (by have := World.block_lt_of_cell? _ _ hx223_0; first | rwa [add_block] at this | exact this) GW222.out)
              have hn223_1 : ad223.block ≠ gb222 := Nat.ne_of_lt (Nat.lt_of_lt_of_le (by have := World.block_lt_of_cell? _ _ hx223_0; first | rwa [add_block] at this | exact this) GW222.out)
              replace hx223_0 := (HB.out.cell (World.block_lt_of_cell? w _ hx223_0)).trans hx223_0
              replace hx223_0 := (cell_far (p := ⟨gb222, 0, none⟩) (by first | (rw [add_block]; exact hn223_0) | (show (Addr.add _ _).block ≠ _; rw [add_block]; exact hn223_0) | exact hn223_0) (.int .i64 ((rd_T49 l2 x7_1).f0))).trans hx223_0
              replace hx223_0 := (cell_far (p := ⟨gb222, 1, none⟩) (by first | (rw [add_block]; exact hn223_1) | (show (Addr.add _ _).block ≠ _; rw [add_block]; exact hn223_1) | exact hn223_1) (.int .i64 ((rd_T49 l2 x7_1).f1))).trans hx223_0
              (try have hy223_0 := fun (n_ : Nat) => (show ((((w7.drewN n_).setCell ⟨gb222, 0, none⟩ (.int .i64 ((rd_T49 l2 x7_1).f0))).setCell ⟨gb222, 1, none⟩ (.int .i64 ((rd_T49 l2 x7_1).f1)))).cell? _ = some _ from hx223_0))
              clear hn223_0
              clear hn223_1
              replace p223 := eq_true p223
              replace q223 := eq_true q223
              have p224 : 0 ≤ (((rd_T49 l2 x7_1).f1) : Int) := of_decide_eq_true (by first | (with_reducible assumption) | assumption)
              have q224 : ((rd_T49 l2 x7_1).f1) < (l1.length : Int) := of_decide_eq_true (by first | (with_reducible assumption) | assumption)
              obtain ⟨ad224, e224, hx224_0⟩ := Kd.at_int HR1.out ((rd_T49 l2 x7_1).f1) p224 q224
              cases e224
              have hn224_0 : ad224.block ≠ gb222 := Nat.ne_of_lt (Nat.lt_of_lt_of_le (by have := World.block_lt_of_cell? _ _ hx224_0; first | rwa [add_block] at this | exact this) GW222.out)
              have hn224_1 : ad224.block ≠ gb222 := Nat.ne_of_lt (Nat.lt_of_lt_of_le (by have := World.block_lt_of_cell? _ _ hx224_0; first | rwa [add_block] at this | exact this) GW222.out)
              replace hx224_0 := (HB.out.cell (World.block_lt_of_cell? w _ hx224_0)).trans hx224_0
              replace hx224_0 := (cell_far (p := ⟨gb222, 0, none⟩) (by first | (rw [add_block]; exact hn224_0) | (show (Addr.add _ _).block ≠ _; rw [add_block]; exact hn224_0) | exact hn224_0) (.int .i64 ((rd_T49 l2 x7_1).f0))).trans hx224_0
              replace hx224_0 := (cell_far (p := ⟨gb222, 1, none⟩) (by first | (rw [add_block]; exact hn224_1) | (show (Addr.add _ _).block ≠ _; rw [add_block]; exact hn224_1) | exact hn224_1) (.int .i64 ((rd_T49 l2 x7_1).f1))).trans hx224_0
              (try have hy224_0 := fun (n_ : Nat) => (show ((((w7.drewN n_).setCell ⟨gb222, 0, none⟩ (.int .i64 ((rd_T49 l2 x7_1).f0))).setCell ⟨gb222, 1, none⟩ (.int .i64 ((rd_T49 l2 x7_1).f1)))).cell? _ = some _ from hx224_0))
              clear hn224_0
              clear hn224_1
              replace p224 := eq_true p224
              replace q224 := eq_true q224
              go_wp2
              repeat (go_quiet (fail); try go_wp2)
              go_meet
              case rel => exact ⟨_, (((rd l0 ((rd_T49 l2 x7_1).f0)) != (rd l1 ((rd_T49 l2 x7_1).f1)))), (by first | rfl | (simp; done) | (simp [*]; done)), H', ⟨by have := HK1.out; first | omega | exact Nat.le_refl _⟩, ⟨by (with_reducible repeat (first | refine blk_drewN ?_ _ | refine blk_drew ?_ | refine blk_alloc ?_ _)); refine blk_put (cs := #[.int .i64 ((rd_T49 l2 x7_1).f0), .int .i64 0]) ?_ 1 _ rfl; (with_reducible repeat (first | refine blk_drewN ?_ _ | refine blk_drew ?_ | refine blk_alloc ?_ _)); refine blk_put (cs := #[.int .i64 0, .int .i64 0]) ?_ 0 _ rfl; (with_reducible repeat (first | refine blk_drewN ?_ _ | refine blk_drew ?_ | refine blk_alloc ?_ _)); exact BK222.out⟩, ⟨by repeat (first | (with_reducible first | exact HB.out | apply below_alloc | apply pw_below_drewN | apply below_drew1 | refine below_set ?_ GE222.out) | exact HB.out)⟩⟩
             ·rw [if_neg c20] at H
              exact absurd H (by simp)
            ·rw [if_neg c19] at H
             exact absurd H (by simp)
           ·rw [if_neg c18] at H
            exact absurd H (by simp)
          ·rw [if_neg c17] at H
           exact absurd H (by simp)
     case rest =>
      clear HC6
      try clear c1
      try clear c2
      try clear p2
      try clear q2
      try clear hx2
      try clear c4
      try clear c4b0
      try clear c5
      try clear c5b0
      try clear c9
      try clear c9b0
      try clear c11
      try clear c11b0
      try clear c13
      try clear c13b0
      try clear c15
      try clear c15b0
      try clear c16
      try clear c17
      try clear c17b0
      try clear c18
      try clear c18b0
      try clear c19
      try clear c19b0
      try clear c20
      try clear c20b0
      try clear hcz10_0
      try clear hcz10_1
      try clear hcz12_0
      try clear hcz12_1
      try clear hcz14_0
      try clear hcz14_1
      try clear hcz16_0
      try clear hcz16_1
      try clear hcz21_0
      try clear hcz21_1
      try clear hcz8_0
      try clear hcz8_1
      try clear hfz10_0
      try clear hfz10_1
      try clear hfz12_0
      try clear hfz12_1
      try clear hfz14_0
      try clear hfz14_1
      try clear hfz16_0
      try clear hfz16_1
      try clear hfz21_0
      try clear hfz21_1
      try clear hfz8_0
      try clear hfz8_1
      try clear hx221_0
      try clear hx221_1
      try clear hx223_0
      try clear hx224_0
      try clear p2
      try clear p221
      try clear p223
      try clear p224
      try clear q221
      try clear q223
      try clear q224
      obtain ⟨kq, x53_5, rfl, HA, HJ5, BK222, HB⟩ := hcut
      cases kq with
      | zero => exact absurd HA.out (by simp [tattingref7_Good.j1])
      | succ kj5 =>
       have H := HA.out
       clear HA
       simp only [tattingref7_Good.j1] at H
       by_cases c22 : x53_5 = true
       ·subst c22
        have H1 : (some false) = some r := by rw [if_pos rfl] at H; exact H
        clear H
        have H := H1
        clear H1
        obtain rfl := Option.some.inj H
        go_wp2
        repeat (go_quiet (fail); try go_wp2)
        go_ret
        exact ⟨by first | rfl | (simp [errW_none, errW_some] <;> rfl) | (simp [*, errW_none, errW_some] <;> rfl), by repeat (first | (with_reducible first | exact HB.out | apply below_alloc | apply pw_below_drewN | apply below_drew1 | refine below_set ?_ GE222.out) | exact HB.out)⟩
       ·replace c22 := Bool.eq_false_iff.mpr c22
        subst c22
        have H1 : (if x7_1 > 0 then (if 0 ≤ (wrap64 (x7_1 - 1)) then (if (wrap64 (x7_1 - 1)) < (l2.length : Int) then (if ((rd_T49 l2 x7_1).f0) ≤ ((rd_T49 l2 (wrap64 (x7_1 - 1))).f0) then (some false) else (if ((rd_T49 l2 x7_1).f1) ≤ ((rd_T49 l2 (wrap64 (x7_1 - 1))).f1) then (some false) else (tattingref7_Good.l0 kj5 l0 l1 l2 (wrap64 (x7_1 + 1))))) else (none)) else (none)) else (tattingref7_Good.l0 kj5 l0 l1 l2 (wrap64 (x7_1 + 1)))) = some r := by rw [if_neg (show ¬ (false = true) by decide)] at H; exact H
        clear H
        have H := H1
        clear H1
        by_cases c23 : x7_1 > 0
        ·rw [if_pos c23] at H
         have c23b0 : decide (0 < x7_1) = true := decide_eq_true c23
         clear c23
         obtain ⟨ji24, hji24⟩ : ∃ j_ : Int, (wrap64 (x7_1 - 1)) = j_ := ⟨_, rfl⟩
         replace H : (if 0 ≤ (ji24) then (if (ji24) < (l2.length : Int) then (if ((rd_T49 l2 x7_1).f0) ≤ ((rd_T49 l2 (ji24)).f0) then (some false) else (if ((rd_T49 l2 x7_1).f1) ≤ ((rd_T49 l2 (ji24)).f1) then (some false) else (tattingref7_Good.l0 kj5 l0 l1 l2 (wrap64 (x7_1 + 1))))) else (none)) else (none)) = some r := by first | (rw [hji24] at H; exact H) | (simp only [hji24] at H ⊢; exact H)
         have hji24w : (IntKind.i64.wrap (x7_1 - 1)) = ji24 := (i64_w _).trans hji24
         by_cases c25 : 0 ≤ (ji24)
         ·rw [if_pos c25] at H
          have c25b0 : decide (0 ≤ (ji24)) = true := decide_eq_true c25
          clear c25
          by_cases c26 : (ji24) < (l2.length : Int)
          ·rw [if_pos c26] at H
           have c26b0 : decide ((ji24) < (l2.length : Int)) = true := decide_eq_true c26
           clear c26
           by_cases c27 : ((rd_T49 l2 x7_1).f0) ≤ ((rd_T49 l2 (ji24)).f0)
           ·rw [if_pos c27] at H
            have c27b0 : decide (((rd_T49 l2 x7_1).f0) ≤ ((rd_T49 l2 (ji24)).f0)) = true := decide_eq_true c27
            clear c27
            obtain rfl := Option.some.inj H
            have hcz28_0 : wc.cell? ⟨gb222, 0, none⟩ = some (.int .i64 ((rd_T49 l2 x7_1).f0)) := (blk_cell BK222.out 0).trans rfl
            have hcz28_1 : wc.cell? ⟨gb222, 1, none⟩ = some (.int .i64 ((rd_T49 l2 x7_1).f1)) := (blk_cell BK222.out 1).trans rfl
            have hfz28_0 := blk_frozen BK222.out 0
            have hfz28_1 := blk_frozen BK222.out 1
            have p225 : 0 ≤ ((ji24) : Int) := of_decide_eq_true (by first | (with_reducible assumption) | assumption)
            have q225 : (ji24) < (l2.length : Int) := of_decide_eq_true (by first | (with_reducible assumption) | assumption)
            obtain ⟨ad225, e225, hx225_0, hx225_1⟩ := at_T49 HR2.out (ji24) p225 q225
            obtain rfl : ad221 = ad225 := (by injection e225)
            replace hx225_0 := (HB.out.cell (World.block_lt_of_cell? w _ hx225_0)).trans hx225_0
            replace hx225_1 := (HB.out.cell (World.block_lt_of_cell? w _ hx225_1)).trans hx225_1
            replace p225 := eq_true p225
            replace q225 := eq_true q225
            go_wp2
            repeat (go_quiet (fail); try go_wp2)
            go_ret
            exact ⟨by first | rfl | (simp [errW_none, errW_some] <;> rfl) | (simp only [← hji24]; first | rfl | (simp [errW_none, errW_some] <;> rfl)) | (simp [*, errW_none, errW_some] <;> rfl), by repeat (first | (with_reducible first | exact HB.out | apply below_alloc | apply pw_below_drewN | apply below_drew1 | refine below_set ?_ GE222.out) | exact HB.out)⟩
           ·rw [if_neg c27] at H
            have c27b0 : decide (((rd_T49 l2 x7_1).f0) ≤ ((rd_T49 l2 (ji24)).f0)) = false := decide_eq_false c27
            clear c27
            by_cases c29 : ((rd_T49 l2 x7_1).f1) ≤ ((rd_T49 l2 (ji24)).f1)
            ·rw [if_pos c29] at H
             have c29b0 : decide (((rd_T49 l2 x7_1).f1) ≤ ((rd_T49 l2 (ji24)).f1)) = true := decide_eq_true c29
             clear c29
             obtain rfl := Option.some.inj H
             have hcz30_0 : wc.cell? ⟨gb222, 0, none⟩ = some (.int .i64 ((rd_T49 l2 x7_1).f0)) := (blk_cell BK222.out 0).trans rfl
             have hcz30_1 : wc.cell? ⟨gb222, 1, none⟩ = some (.int .i64 ((rd_T49 l2 x7_1).f1)) := (blk_cell BK222.out 1).trans rfl
             have hfz30_0 := blk_frozen BK222.out 0
             have hfz30_1 := blk_frozen BK222.out 1
             have p225 : 0 ≤ ((ji24) : Int) := of_decide_eq_true (by first | (with_reducible assumption) | assumption)
             have q225 : (ji24) < (l2.length : Int) := of_decide_eq_true (by first | (with_reducible assumption) | assumption)
             obtain ⟨ad225, e225, hx225_0, hx225_1⟩ := at_T49 HR2.out (ji24) p225 q225
             obtain rfl : ad221 = ad225 := (by injection e225)
             replace hx225_0 := (HB.out.cell (World.block_lt_of_cell? w _ hx225_0)).trans hx225_0
             replace hx225_1 := (HB.out.cell (World.block_lt_of_cell? w _ hx225_1)).trans hx225_1
             replace p225 := eq_true p225
             replace q225 := eq_true q225
             have p226 : 0 ≤ ((ji24) : Int) := of_decide_eq_true (by first | (with_reducible assumption) | assumption)
             have q226 : (ji24) < (l2.length : Int) := of_decide_eq_true (by first | (with_reducible assumption) | assumption)
             obtain ⟨ad226, e226, hx226_0, hx226_1⟩ := at_T49 HR2.out (ji24) p226 q226
             obtain rfl : ad221 = ad226 := (by injection e226)
             replace hx226_0 := (HB.out.cell (World.block_lt_of_cell? w _ hx226_0)).trans hx226_0
             replace hx226_1 := (HB.out.cell (World.block_lt_of_cell? w _ hx226_1)).trans hx226_1
             replace p226 := eq_true p226
             replace q226 := eq_true q226
             go_wp2
             repeat (go_quiet (fail); try go_wp2)
             go_ret
             exact ⟨by first | rfl | (simp [errW_none, errW_some] <;> rfl) | (simp only [← hji24]; first | rfl | (simp [errW_none, errW_some] <;> rfl)) | (simp [*, errW_none, errW_some] <;> rfl), by repeat (first | (with_reducible first | exact HB.out | apply below_alloc | apply pw_below_drewN | apply below_drew1 | refine below_set ?_ GE222.out) | exact HB.out)⟩
            ·rw [if_neg c29] at H
             have c29b0 : decide (((rd_T49 l2 x7_1).f1) ≤ ((rd_T49 l2 (ji24)).f1)) = false := decide_eq_false c29
             clear c29
             have H' := Aside0.mk H
             clear H
             have hcz31_0 : wc.cell? ⟨gb222, 0, none⟩ = some (.int .i64 ((rd_T49 l2 x7_1).f0)) := (blk_cell BK222.out 0).trans rfl
             have hcz31_1 : wc.cell? ⟨gb222, 1, none⟩ = some (.int .i64 ((rd_T49 l2 x7_1).f1)) := (blk_cell BK222.out 1).trans rfl
             have hfz31_0 := blk_frozen BK222.out 0
             have hfz31_1 := blk_frozen BK222.out 1
             have p225 : 0 ≤ ((ji24) : Int) := of_decide_eq_true (by first | (with_reducible assumption) | assumption)
             have q225 : (ji24) < (l2.length : Int) := of_decide_eq_true (by first | (with_reducible assumption) | assumption)
             obtain ⟨ad225, e225, hx225_0, hx225_1⟩ := at_T49 HR2.out (ji24) p225 q225
             obtain rfl : ad221 = ad225 := (by injection e225)
             replace hx225_0 := (HB.out.cell (World.block_lt_of_cell? w _ hx225_0)).trans hx225_0
             replace hx225_1 := (HB.out.cell (World.block_lt_of_cell? w _ hx225_1)).trans hx225_1
             replace p225 := eq_true p225
             replace q225 := eq_true q225
             have p226 : 0 ≤ ((ji24) : Int) := of_decide_eq_true (by first | (with_reducible assumption) | assumption)
             have q226 : (ji24) < (l2.length : Int) := of_decide_eq_true (by first | (with_reducible assumption) | assumption)
             obtain ⟨ad226, e226, hx226_0, hx226_1⟩ := at_T49 HR2.out (ji24) p226 q226
             obtain rfl : ad221 = ad226 := (by injection e226)
             replace hx226_0 := (HB.out.cell (World.block_lt_of_cell? w _ hx226_0)).trans hx226_0
             replace hx226_1 := (HB.out.cell (World.block_lt_of_cell? w _ hx226_1)).trans hx226_1
             replace p226 := eq_true p226
             replace q226 := eq_true q226
             go_wp2
             repeat (go_quiet (fail); try go_wp2)
             go_roundg kj5
             case measure => have := HK1.out; have := HJ5.out; omega
             case rel => exact ⟨(wrap64 (x7_1 + 1)), (by first | rfl | (simp; done) | (simp [*]; done)), H', ⟨by have := HK1.out; have := HJ5.out; omega⟩, ⟨by repeat (first | (with_reducible first | exact HB.out | apply below_alloc | apply pw_below_drewN | apply below_drew1 | refine below_set ?_ GE222.out) | exact HB.out)⟩⟩
          ·rw [if_neg c26] at H
           exact absurd H (by simp)
         ·rw [if_neg c25] at H
          exact absurd H (by simp)
        ·rw [if_neg c23] at H
         have c23b0 : decide (0 < x7_1) = false := decide_eq_false c23
         clear c23
         have H' := Aside0.mk H
         clear H
         go_wp2
         repeat (go_quiet (fail); try go_wp2)
         go_roundg kj5
         case measure => have := HK1.out; have := HJ5.out; omega
         case rel => exact ⟨(wrap64 (x7_1 + 1)), (by first | rfl | (simp; done) | (simp [*]; done)), H', ⟨by have := HK1.out; have := HJ5.out; omega⟩, ⟨by repeat (first | (with_reducible first | exact HB.out | apply below_alloc | apply pw_below_drewN | apply below_drew1 | refine below_set ?_ GE222.out) | exact HB.out)⟩⟩
    ·rw [if_neg c5] at H
     exact absurd H (by simp)
   ·rw [if_neg c4] at H
    have c4b0 : decide (x7_1 < (l2.length : Int)) = false := decide_eq_false c4
    clear c4
    obtain rfl := Option.some.inj H
    go_wp2
    repeat (go_quiet (fail); try go_wp2)
    go_ret
    exact ⟨by first | rfl | (simp [errW_none, errW_some] <;> rfl) | (simp [*, errW_none, errW_some] <;> rfl), by repeat (first | (with_reducible first | exact HB.out | apply below_alloc | apply pw_below_drewN | apply below_drew1) | exact HB.out)⟩

/-! ### tattingref15_Apart: function 21 -/
def tattingref15_Apart.f (a0 : Int) (a1 : Int) : Option (Int) := if a0 > a1 then (some (wrap64 (a0 - a1))) else (some (wrap64 (a1 - a0)))
set_option maxHeartbeats 8000000 in
set_option maxRecDepth 100000 in
theorem tattingref15_Apart.calls (a0 : Int) (a1 : Int) (r : Int) (w : World) (h : tattingref15_Apart.f a0 a1 = some r) :
  Calls Try.prog 21 #[.int .i64 a0, .int .i64 a1] w fun e w' => e = .returned (.int .i64 r) ∧ Drawn0 w w' := by
 have H : (if a0 > a1 then (some (wrap64 (a0 - a1))) else (some (wrap64 (a1 - a0)))) = some r := h
 clear h
 by_cases c3 : a0 > a1
 ·rw [if_pos c3] at H
  have c3b0 : decide (a1 < a0) = true := decide_eq_true c3
  clear c3
  obtain rfl := Option.some.inj H
  go_enter Try.func21, Try.ntmps21
  go_wp2
  go_ret
  exact ⟨by first | rfl | (simp; done) | (simp [*]; done), by repeat (first | exact Drawn0.refl _ | apply Drawn0.step)⟩
 ·rw [if_neg c3] at H
  have c3b0 : decide (a1 < a0) = false := decide_eq_false c3
  clear c3
  obtain rfl := Option.some.inj H
  go_enter Try.func21, Try.ntmps21
  go_wp2
  go_ret
  exact ⟨by first | rfl | (simp; done) | (simp [*]; done), by repeat (first | exact Drawn0.refl _ | apply Drawn0.step)⟩

end Go.Proofs.Ytcjngbpmdmfbdaa.PBandRuns
