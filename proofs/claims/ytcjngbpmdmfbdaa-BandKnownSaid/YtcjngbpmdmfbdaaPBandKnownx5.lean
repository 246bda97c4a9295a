/- What the given program's functions come to, each a Lean function and the walk that shows it: no condition beside those that each theorem names. -/
import Derived.Test.YtcjngbpmdmfbdaaPBandKnownx0
import Derived.Test.YtcjngbpmdmfbdaaPBandKnownx1
import Derived.Test.YtcjngbpmdmfbdaaPBandKnownx2
import Derived.Test.YtcjngbpmdmfbdaaPBandKnownx3
import Derived.Test.YtcjngbpmdmfbdaaPBandKnownx4
namespace Go.Proofs.Ytcjngbpmdmfbdaa.PBandKnown
open Go.RowKit Go.Proofs.YtcjngbpmdmfbdaaW.PrintWords Go.Proofs.YtcjngbpmdmfbdaaW.PrintLast Go.Proofs.YtcjngbpmdmfbdaaW.PrintMore
attribute [local go_sem] max2_int min2_int max_two min_two max_three min_three max_four min_four   -- for this text's walks alone
set_option linter.unusedVariables false
set_option linter.unusedSimpArgs false

/-! ### band_Run: function 15, by hand -/
theorem info43_ : (Try.prog.info? 43).map (fun i => (i.zero, i.size, i.bytes)) = some (some (.agg #[(.int .i64 0), (.slice none 0 0)]), 2, 32) := by kernel_rfl
/-- n rows of the band, and the last one. -/
def band_Run.g (k : Nat) (l0 l1 : List Int) (lo hi : Int) : Nat → Option (List S43 × S43)
 | 0 => some ([], z43)
 | n + 1 => (band_Run.g k l0 l1 lo hi n).bind fun p => (band_next.f k l0 l1 (n : Int) lo hi p.2.f0 p.2.f1).bind fun r => some (p.1 ++ [⟨r.1, r.2⟩], ⟨r.1, r.2⟩)
def band_Run.l0 : Nat → List Int → List Int → Int → Int → Option (List S49 × Int)
 | 0, _, _, _, _ => none
 | k + 1, l0, l1, st, kk => (band_Cells.f k (l0.length : Int) (l1.length : Int) kk).bind fun c => (band_edges.f (l0.length : Int) (l1.length : Int) kk).bind fun e => if l0.length < 1000000 then ((band_Run.g k l0 l1 e.1 e.2.1 (l0.length + 1)).bind fun p => (band_line_at.f p.2.f0 p.2.f1 (l1.length : Int)).bind fun d => if d ≤ kk then ((band_back.f k l0 l1 p.1).bind fun b => some (b, wrap64 (st + c))) else band_Run.l0 k l0 l1 (wrap64 (st + c)) (wrap64 (wrap64 (2 * kk) + 1))) else none
def band_Run.f (k : Nat) (l0 l1 : List Int) : Option (List S49 × Int) := band_Run.l0 k l0 l1 0 (mx (wrap64 ((l0.length : Int) - (l1.length : Int))) (wrap64 ((l1.length : Int) - (l0.length : Int))))
theorem band_Run.mono_g (k : Nat) (l0 l1 : List Int) (lo hi : Int) : ∀ n, LeO (band_Run.g k l0 l1 lo hi n) (band_Run.g (k + 1) l0 l1 lo hi n)
 | 0 => LeO.refl _
 | n + 1 => by
  unfold band_Run.g
  exact LeO.bind (band_Run.mono_g k l0 l1 lo hi n) fun p => LeO.bind (band_next.mono _ _ _ _ _ _ _ _) fun _ => LeO.refl _
theorem band_Run.mono_l : ∀ k l0 l1 st kk, LeO (band_Run.l0 k l0 l1 st kk) (band_Run.l0 (k + 1) l0 l1 st kk)
 | 0, _, _, _, _ => fun r h => by simp [band_Run.l0] at h
 | k + 1, l0, l1, st, kk => by
  have ih := band_Run.mono_l k
  unfold band_Run.l0
  exact LeO.bind (band_Cells.mono _ _ _ _) fun _ => LeO.bind (LeO.refl _) fun _ => LeO.ite (LeO.bind (band_Run.mono_g _ _ _ _ _ _) fun _ => LeO.bind (LeO.refl _) fun _ => LeO.ite (LeO.bind (band_back.mono _ _ _ _) fun _ => LeO.refl _) (ih _ _ _ _)) (LeO.refl _)
theorem band_Run.mono : ∀ a0 a1 k, LeO (band_Run.f k a0 a1) (band_Run.f (k + 1) a0 a1) := fun _ _ _ => band_Run.mono_l _ _ _ _ _
theorem band_Run.g_len {k : Nat} {l0 l1 : List Int} {lo hi : Int} : ∀ {n : Nat} {p : List S43 × S43}, band_Run.g k l0 l1 lo hi n = some p → p.1.length = n
 | 0, p, h => by cases h; rfl
 | n + 1, p, h => by
  unfold band_Run.g at h
  obtain ⟨q, hq, h⟩ := Option.bind_eq_some_iff.mp h
  obtain ⟨r, _, h⟩ := Option.bind_eq_some_iff.mp h
  cases h
  simp [band_Run.g_len hq]
theorem band_Run.g_ahead {k : Nat} {l0 l1 : List Int} {lo hi : Int} {m : Nat} : ∀ {d n : Nat} {p : List S43 × S43}, m + d = n → band_Run.g k l0 l1 lo hi n = some p → ∃ q, band_Run.g k l0 l1 lo hi m = some q
 | 0, n, p, e, h => ⟨p, by rw [show m = n by omega]; exact h⟩
 | d + 1, n, p, e, h => by
  obtain ⟨n, rfl⟩ : ∃ n', n = n' + 1 := ⟨n - 1, by omega⟩
  unfold band_Run.g at h
  obtain ⟨q, hq, _⟩ := Option.bind_eq_some_iff.mp h
  exact band_Run.g_ahead (d := d) (by omega) hq
theorem FK43_of_V {w : World} {base : Nat} {ok : Nat → Prop} {x : S43} {v : Value} (h : Kd.V (Kd.int .i64) 3 w base ok v x.f1) : Kd.FK k43 w ok x [.int .i64 x.f0, v] := by
 obtain ⟨A, c, rfl, hl, hf⟩ := h
 exact fun W' hW => k43_mk W' x hl (hf W' hW)
theorem set_next (l : List S43) (x z : S43) (n i : Nat) (hi : l.length = i) (hn : i < n) : (l ++ List.replicate (n - i) z).set i x = (l ++ [x]) ++ List.replicate (n - (i + 1)) z := by
 subst hi
 obtain ⟨m, hm⟩ : ∃ m, n - l.length = m + 1 := ⟨n - l.length - 1, by omega⟩
 rw [hm, show n - (l.length + 1) = m by omega, List.replicate_succ, List.append_assoc]
 simp
theorem FK43_zero (w : World) (ok : Nat → Prop) : Kd.FK k43 w ok z43 [.int .i64 0, .slice none 0 0] := fun W' _ => k43_mk W' z43 (Nat.le_refl _) (Kd.C_nil (Kd.int .i64) W')
theorem two_of {c : List Value} (h : c.length = 2) : ∃ a b, c = [a, b] := by
 match c, h with
 | [a, b], _ => exact ⟨a, b, rfl⟩
set_option maxHeartbeats 8000000 in
set_option maxRecDepth 100000 in
theorem band_Run.calls (k : Nat) (A0 : Option Addr) (c0 : Nat) (l0 : List Int) (A1 : Option Addr) (c1 : Nat) (l1 : List Int) (r1 : List S49) (r2 : Int) (w : World) (hr0 : Kd.C (Kd.int .i64) w A0 l0.length l0) (hc0 : l0.length ≤ c0) (hr1 : Kd.C (Kd.int .i64) w A1 l1.length l1) (hc1 : l1.length ≤ c1) (h : band_Run.f k l0 l1 = some (r1, r2)) :
  Calls Try.prog 15 #[.slice A0 l0.length c0, .slice A1 l1.length c1] w fun e w' => ∃ v0_ : Value, e = .returned (.tuple #[v0_, .int .i64 r2]) ∧ Kd.R k49 49 w' w.heap.size (fun _ => True) v0_ r1 ∧ Below w.heap.size w w' := by
 have HR0 := Aside0.mk hr0
 have HR1 := Aside0.mk hr1
 have HC0 := Aside0.mk hc0
 have HC1 := Aside0.mk hc1
 have HB := Aside0.mk (Below.refl w.heap.size w)
 have hm0 := Kd.C_max hr0
 have hm1 := Kd.C_max hr1
 clear hr0 hr1 hc0 hc1
 have hu43 := Try.underlying43
 unfold band_Run.f at h
 have hkk : mx (wrap64 ((l0.length : Int) - (l1.length : Int))) (wrap64 ((l1.length : Int) - (l0.length : Int))) = if l1.length ≤ l0.length then (l0.length : Int) - (l1.length : Int) else (l1.length : Int) - (l0.length : Int) := by
  unfold mx wrap64
  split <;> split <;> omega
 rw [hkk] at h
 clear hkk
 by_cases hle : l1.length ≤ l0.length
 all_goals
  first | rw [if_pos hle] at h | rw [if_neg hle] at h
  have H := Aside0.mk h
  clear h
  go_enter Try.func15, Try.ntmps15
  try dsimp only [List.append]
  go_wp2_with fail
  go_loopg [6, 7] k (fun kq v6 v7 w' => ∃ st kk : Int, v6 = .int .i64 st ∧ v7 = .int .i64 kk ∧ Aside0 (band_Run.l0 kq l0 l1 st kk = some (r1, r2)) ∧ Aside0 (kq ≤ k) ∧ Aside0 (Below w.heap.size w w'))
  case atStart => exact ⟨_, _, rfl, rfl, H, ⟨Nat.le_refl _⟩, HB⟩
  case round =>
   clear H HB hle
   obtain ⟨st, kk, rfl, rfl, HA, HK1, HB⟩ := hrel
   cases gk with
   | zero => exact absurd HA.out (by simp [band_Run.l0])
   | succ k1 =>
    have h := HA.out
    clear HA
    unfold band_Run.l0 at h
    rw [Option.bind_eq_some_iff] at h
    obtain ⟨c, hc, h⟩ := h
    rw [Option.bind_eq_some_iff] at h
    obtain ⟨⟨lo, hi, eok⟩, he, h⟩ := h
    by_cases hlt : l0.length < 1000000
    ·rw [if_pos hlt] at h
     rw [Option.bind_eq_some_iff] at h
     obtain ⟨⟨rows, last⟩, hg, h⟩ := h
     rw [Option.bind_eq_some_iff] at h
     obtain ⟨d, hd, h⟩ := h
     have AC := Aside0.mk hc
     have AE := Aside0.mk he
     have AG := Aside0.mk hg
     have AD := Aside0.mk hd
     have AH := Aside0.mk h
     clear hc he hg hd h
     go_wp2_with (first
      | (go_at_call 10; (with_reducible refine (band_Cells.calls k1 _ _ _ c _ AC.out).mono ?_); rintro e w1 ⟨rfl, hb⟩; have n0_ := Aside0.mk (below_step HB.out hb); clear HB hb; have HB := n0_; clear n0_)
      | (go_at_call 20; (with_reducible refine (band_edges.calls _ _ _ lo hi eok _ AE.out).mono ?_); rintro e w2 ⟨rfl, hb⟩; have n0_ := Aside0.mk (below_step HB.out hb); clear HB hb; have HB := n0_; clear n0_)
      | ((with_reducible refine gate_dst (N := 49) rfl ?_); refine Kd.N_make k43 w.heap.size 43 rfl (N' := 49) rfl 46 _ _ rfl ((l0.length : Int) + 1) rfl rfl Try.underlying46 (.agg #[.int .i64 0, .slice none 0 0]) 32 info43_ rfl (by decide) (by omega) z43 (ok := fun _ => True) (okp := fun _ => False) (FK43_zero _ _) (fun _ hk => hk.elim) trivial (by omega) (by omega) HB.out HB.out.size ?_; intro v3 w3 hN hb hg hnew; rw [show ((l0.length : Int) + 1).toNat = l0.length + 1 by omega] at hN; obtain ⟨G, cap, rfl, hGb, hGl, _⟩ := Kd.N_form hN (by simp); simp only [List.length_replicate] at hN; simp only [List.length_replicate]; clear HB hg hnew; have HB := Aside0.mk hb; have HN := Aside0.mk hN; have HGL := Aside0.mk hGl; have HGB := Aside0.mk hGb; (try clear hb); (try clear hN); (try clear hGl); (try clear hGb))
      | ((with_reducible refine gate_dst (N := 12) rfl ?_); refine box_event ?hg (N := 12) ?hd (cs := #[.int .i64 0, .slice none 0 0]) (t := 43) ?hr ?_; (case hd => rfl); (case hg => rfl); (case hr => first | (go_simp; done) | (go_simp; rfl)); intro gb hg w8 hbox hb; have n0_ := Aside0.mk (below_step HB.out hb); have BK := Aside0.mk hbox; have n1_ := Aside0.mk (Kd.N_mono (Kd.N_below (Kd.N_bound HN.out) hb) (ok' := fun k_ => k_ < gb) (fun k_ hk => by rw [hg]; exact hk.2)); have HGG := Aside0.mk (show G < gb by rw [hg]; exact HGL.out); have HBG := Aside0.mk (show w.heap.size ≤ gb by rw [hg]; exact HB.out.size); clear HB HN hb hbox hg; have HB := n0_; have HN := n1_; clear n0_ n1_))
     have hlen := l0.length
     go_loopw [52] (fun v w' => ∃ (i : Nat) (done : List S43) (last : S43) (u : Value), i ≤ l0.length + 1 ∧ v = .int .i64 i ∧ Aside0 (band_Run.g k1 l0 l1 lo hi i = some (done, last)) ∧ Aside0 (Kd.N k43 43 w' w.heap.size (fun k_ => k_ ≠ gb) (.slice (some ⟨G, 0, none⟩) (l0.length + 1) cap) (done ++ List.replicate (l0.length + 1 - i) z43)) ∧ Aside0 (Kd.V (Kd.int .i64) 3 w' 0 (fun k_ => k_ ≠ gb ∧ k_ ≠ G) u last.f1) ∧ Aside0 (w'.heap[gb]? = some (.cells #[.int .i64 last.f0, u] 43 (0, 0))) ∧ Aside0 (Below w.heap.size w w')) (fun v _ => l0.length + 1 - (intOf v).toNat)
     case atStart => exact ⟨0, [], z43, .slice none 0 0, by omega, rfl, ⟨rfl⟩, ⟨Kd.N_mono HN.out (fun k_ hk => by omega)⟩, ⟨Kd.V_nil _ _ _ _ _⟩, BK, HB⟩
     case round =>
      clear HN HB BK hlen
      obtain ⟨i, done, last, u, hi1, rfl, AGi, HN, HV, BK, HB⟩ := hrel
      have hdl : done.length = i := band_Run.g_len AGi.out
      by_cases hlt2 : i < l0.length + 1
      ·obtain ⟨q, hq⟩ := band_Run.g_ahead (m := i + 1) (d := l0.length - i) (by omega) AG.out
       have hq0 := hq
       unfold band_Run.g at hq
       rw [Option.bind_eq_some_iff] at hq
       obtain ⟨p, hp, hq⟩ := hq
       rw [AGi.out] at hp
       cases hp
       rw [Option.bind_eq_some_iff] at hq
       obtain ⟨⟨f, fs⟩, hn, hq⟩ := hq
       cases hq
       have AN := Aside0.mk hn
       have AQ := Aside0.mk hq0
       clear hn hq0
       have hcz0 : wr.cell? ⟨gb, 0, none⟩ = some (.int .i64 last.f0) := (blk_cell BK.out 0).trans rfl
       have hcz1 : wr.cell? ⟨gb, 1, none⟩ = some u := (blk_cell BK.out 1).trans rfl
       obtain ⟨Au, cu, rfl⟩ := Kd.V_slice HV.out
       have hgl := Aside0.mk (blk_lt BK.out)
       have hGg : ¬ G = gb := by have := HGG.out; omega
       have hgG : ¬ gb = G := by have := HGG.out; omega
       have gi0 : (0 : Int) ≤ (i : Int) := by omega
       have gi1 : (i : Int) < ((l0.length + 1 : Nat) : Int) := by omega
       have hset := Aside0.mk (set_next done ⟨f, fs⟩ z43 (l0.length + 1) i hdl hlt2)
       go_wp2_with (first
        | (go_at_call 22; ((with_reducible refine (band_next.calls k1 _ _ l0 _ _ l1 (i : Int) lo hi last.f0 _ _ last.f1 f fs _ (Kd.C_below HR0.out HB.out) HC0.out (Kd.C_below HR1.out HB.out) HC1.out (Kd.V_reads' HV.out).2.2 (Kd.V_reads' HV.out).2.1 AN.out).mono ?_); rintro e w4 ⟨v4, rfl, ho, hb⟩; obtain ⟨A4, c4, rfl⟩ := Kd.R_slice ho; have n0_ := Aside0.mk (below_step HB.out hb); have n1_ := Aside0.mk (Kd.N_below HN.out hb); have n2_ := Aside0.mk (blk_below BK.out hb); have n3_ := Aside0.mk (Kd.V_mono (base := 0) (Kd.R_V (base' := 0) (Kd.R_bound ho)) (ok' := fun k_ => k_ ≠ gb ∧ k_ ≠ G) (fun k_ hk => by have := hk.2.1; have := hgl.out; have := HGG.out; omega)); clear HB HN BK HV ho hb hcz0 hcz1; have HB := n0_; have HN := n1_; have BK := n2_; have HV := n3_; clear n0_ n1_ n2_ n3_; have hcz0 := (blk_cell BK.out 0).trans rfl; have hcz1 := (blk_cell BK.out 1).trans rfl; have hfz0 := blk_frozen BK.out 0; have hfz1 := blk_frozen BK.out 1; obtain ⟨c_, hcl, _, hcc, hfr⟩ := Kd.N_elem HN.out z43 (i : Int) (by omega) (by omega); obtain ⟨p0, p1, rfl⟩ := two_of hcl; have hx0 : w4.cell? ⟨G, i * 2, none⟩ = some p0 := hcc 0 p0 rfl; have hx1 : w4.cell? ⟨G, i * 2 + 1, none⟩ = some p1 := hcc 1 p1 rfl; have hf0 : w4.frozen? ⟨G, i * 2, none⟩ = false := hfr 0; have hf1 : w4.frozen? ⟨G, i * 2 + 1, none⟩ = false := hfr 1; (try clear hcc); (try clear hfr); (try clear hcl))))
       go_roundw
       case rel =>
        have hN2 := Kd.N_far (p := ⟨gb, 1, none⟩) (Kd.N_far (p := ⟨gb, 0, none⟩) HN.out (fun _ hk => hk) (.int .i64 f)) (fun _ hk => hk) (.slice A4 fs.length c4)
        have hV2 := Kd.V_far (p := ⟨gb, 1, none⟩) (Kd.V_far (p := ⟨gb, 0, none⟩) HV.out (fun _ hk => hk.1) (.int .i64 f)) (fun _ hk => hk.1) (.slice A4 fs.length c4)
        have hK2 := blk_put (cs' := #[.int .i64 f, .slice A4 fs.length c4]) (blk_put (cs' := #[.int .i64 f, .slice Au last.f1.length cu]) BK.out 0 (.int .i64 f) rfl) 1 (.slice A4 fs.length c4) rfl
        have hB2 := below_set (j := 1) (v := .slice A4 fs.length c4) (below_set (j := 0) (v := .int .i64 f) HB.out HBG.out) HBG.out
        obtain ⟨c_, hcl, _, hcc, _⟩ := Kd.N_elem hN2 z43 (i : Int) (by omega) (by omega)
        have hS := Kd.N_seg hN2 (i : Int) (by omega) (by omega) (seg := [.int .i64 f, .slice A4 fs.length c4]) (j := 0) (x' := ⟨f, fs⟩) (okp := fun k_ => k_ ≠ gb ∧ k_ ≠ G) hcl hcc (Nat.le_refl 2) (by
         have e : c_.take 0 ++ [.int .i64 f, .slice A4 fs.length c4] ++ c_.drop (0 + 2) = [.int .i64 f, .slice A4 fs.length c4] := by
          obtain ⟨p0, p1, rfl⟩ := two_of hcl
          rfl
         rw [show [Value.int .i64 f, .slice A4 fs.length c4].length = 2 from rfl, e]
         exact FK43_of_V (x := ⟨f, fs⟩) hV2) (fun _ hk => hk)
        rw [Int.toNat_natCast, hset.out] at hS
        have hS : Kd.N k43 43 ((((w4.setCell ⟨gb, 0, none⟩ (.int .i64 f)).setCell ⟨gb, 1, none⟩ (.slice A4 fs.length c4)).setCell ⟨G, i * 2, none⟩ (.int .i64 f)).setCell ⟨G, i * 2 + 1, none⟩ (.slice A4 fs.length c4)) w.heap.size (fun k_ => k_ ≠ gb) (.slice (some ⟨G, 0, none⟩) (l0.length + 1) cap) (done ++ [⟨f, fs⟩] ++ List.replicate (l0.length + 1 - (i + 1)) z43) ∧ World.grownBy ((w4.setCell ⟨gb, 0, none⟩ (.int .i64 f)).setCell ⟨gb, 1, none⟩ (.slice A4 fs.length c4)) ((((w4.setCell ⟨gb, 0, none⟩ (.int .i64 f)).setCell ⟨gb, 1, none⟩ (.slice A4 fs.length c4)).setCell ⟨G, i * 2, none⟩ (.int .i64 f)).setCell ⟨G, i * 2 + 1, none⟩ (.slice A4 fs.length c4)) (some G) := hS
        refine ⟨i + 1, done ++ [⟨f, fs⟩], ⟨f, fs⟩, .slice A4 fs.length c4, by omega, by go_num, AQ, ⟨hS.1⟩, ⟨Kd.V_grown hV2 hS.2 (fun k_ hk e_ => hk.2 (by injection e_))⟩, ⟨blk_grown hK2 hS.2 (fun e_ => by injection e_ with e_; have := HGG.out; omega)⟩, ⟨hB2.grown hS.2 (hB2.size) (fun k_ e_ => by cases e_; exact HGB.out)⟩⟩
       case measure => simp [intOf]; omega
      ·obtain rfl : i = l0.length + 1 := by omega
       have hgg := AG.out.symm.trans AGi.out
       simp only [Option.some.injEq, Prod.mk.injEq] at hgg
       obtain ⟨rfl, rfl⟩ := hgg
       have HN := Aside0.mk (show Kd.N k43 43 wr w.heap.size (fun k_ => k_ ≠ gb) (.slice (some ⟨G, 0, none⟩) (l0.length + 1) cap) rows by have := HN.out; rwa [Nat.sub_self, List.replicate_zero, List.append_nil] at this)
       have hcz0 : wr.cell? ⟨gb, 0, none⟩ = some (.int .i64 last.f0) := (blk_cell BK.out 0).trans rfl
       have hcz1 : wr.cell? ⟨gb, 1, none⟩ = some u := (blk_cell BK.out 1).trans rfl
       obtain ⟨Au, cu, rfl⟩ := Kd.V_slice HV.out
       have hge : l0.length + 1 ≤ rows.length := by omega
       rw [← hdl] at HN ⊢
       clear hdl
       by_cases hdk : d ≤ kk
       ·have h := AH.out
        rw [if_pos hdk, Option.bind_eq_some_iff] at h
        obtain ⟨b, hbk, h⟩ := h
        simp only [Option.some.injEq, Prod.mk.injEq] at h
        obtain ⟨rfl, rfl⟩ := h
        have AB := Aside0.mk hbk
        clear hbk AH
        have hdd : decide (d ≤ kk) = true := decide_eq_true hdk
        go_wp2_with (first
         | (go_at_call 23; ((with_reducible refine (band_line_at.calls last.f0 _ _ last.f1 (l1.length : Int) d _ (Kd.V_reads' HV.out).2.2 (Kd.V_reads' HV.out).2.1 AD.out).mono ?_); rintro e w6 ⟨rfl, hb⟩; have n0_ := Aside0.mk (below_step HB.out hb); have n1_ := Aside0.mk (Kd.N_below HN.out hb); clear HB HN hb; have HB := n0_; have HN := n1_; clear n0_ n1_))
         | (go_at_call 24; ((with_reducible refine (band_back.calls k1 _ _ l0 _ _ l1 _ _ rows b _ (Kd.C_below HR0.out HB.out) HC0.out (Kd.C_below HR1.out HB.out) HC1.out (Kd.N_reads' HN.out).2.2 (Kd.N_reads' HN.out).2.1 AB.out).mono ?_); rintro e w7 ⟨v7, rfl, ho, hb⟩; have n0_ := Aside0.mk (below_step HB.out hb); have HO := Aside0.mk (Kd.R_lower ho HB.out.size); clear HB ho hb; have HB := n0_; clear n0_)))
        go_ret2
        exact ⟨v7, rfl, HO.out, HB.out⟩
       ·have h := AH.out
        rw [if_neg hdk] at h
        have AH2 := Aside0.mk h
        clear h AH
        have hdd : decide (d ≤ kk) = false := decide_eq_false hdk
        go_wp2_with (first
         | (go_at_call 23; ((with_reducible refine (band_line_at.calls last.f0 _ _ last.f1 (l1.length : Int) d _ (Kd.V_reads' HV.out).2.2 (Kd.V_reads' HV.out).2.1 AD.out).mono ?_); rintro e w6 ⟨rfl, hb⟩; have n0_ := Aside0.mk (below_step HB.out hb); clear HB hb; have HB := n0_; clear n0_)))
        go_roundg k1
        case measure => have := HK1.out; omega
        case rel => exact ⟨_, _, rfl, rfl, AH2, ⟨by have := HK1.out; omega⟩, HB⟩
    ·rw [if_neg hlt] at h
     cases h

/-! ### tattinglaw19_BandKnown: function 7 -/
def tattinglaw19_BandKnown.f (k : Nat)  : Option (Bool) := (band_Within.f k ([] : List Int) ([] : List Int) (-1)).bind fun bt185 => ((band_Within.f k ([] : List Int) ([] : List Int) 0).bind fun bt188 => ((band_Within.f k (([3] : List Int)) (([3, 4] : List Int)) 4611686018427387904).bind fun bt197 => ((band_Run.f k (([1, 2] : List Int)) (([2, 1] : List Int))).bind fun bt206 => ((band_Run.f k (([7] : List Int)) (([7] : List Int))).bind fun bt216 => ((tattinglaw19_awake.f k).bind fun t220 => (if t220 = true then (if bt185.2.2 = 1 then (if bt188.2.2 = 0 then (if bt188.1 = 0 then (if bt188.2.1 = 1 then (if bt197.2.2 = 0 then (if bt197.1 = 1 then (if bt197.2.1 = 6 then (if (bt206.1.length : Int) = 1 then (if bt206.2 = 13 then (if (bt216.1.length : Int) = 1 then (if bt216.2 = 2 then ((band_Cells.f k (-1) 2 5).bind fun t221 => (if t221 = 0 then ((band_Cells.f k 2 2 (-1)).bind fun t222 => (if t222 = 0 then ((band_Cells.f k 1099511627776 2 1).bind fun t223 => (if t223 = 0 then ((band_Cells.f k 2 4 1).bind fun t224 => (if t224 = 0 then ((band_Cells.f k 0 3 3).bind fun t225 => (some (t225 == 4))) else (some false))) else (some false))) else (some false))) else (some false))) else (some false)) else (some false)) else (some false)) else (some false)) else (some false)) else (some false)) else (some false)) else (some false)) else (some false)) else (some false)) else (some false)) else (some false)))))))
theorem tattinglaw19_BandKnown.mono : ∀ k, LeO (tattinglaw19_BandKnown.f k ) (tattinglaw19_BandKnown.f (k + 1) ) := by
 intro  k
 unfold tattinglaw19_BandKnown.f
 repeat' first
   | (with_reducible exact band_Cells.mono _ _ _ _)
   | (with_reducible exact band_Run.mono _ _ _)
   | (with_reducible exact band_Within.mono _ _ _ _)
   | (with_reducible exact tattinglaw19_awake.mono _)
   | (with_reducible exact LeO.refl _)
   | (with_reducible exact LeO.none _)
   | (with_reducible refine LeO.ite ?_ ?_)
   | (with_reducible refine LeO.bind ?_ (fun _ => ?_))
   | exact band_Cells.mono _ _ _ _
   | exact band_Run.mono _ _ _
   | exact band_Within.mono _ _ _ _
   | exact tattinglaw19_awake.mono _
   | exact LeO.none _
   | refine LeO.ite ?_ ?_
   | refine LeO.bind ?_ (fun _ => ?_)
set_option maxHeartbeats 8000000 in
set_option maxRecDepth 100000 in
theorem tattinglaw19_BandKnown.calls (k : Nat)  (r : Bool) (w : World) (h : tattinglaw19_BandKnown.f k  = some r) (hr_ : r = true) :
  Calls Try.prog 7 #[] w fun e w' => e = .returned (.bool r) ∧ Below w.heap.size w w' := by
 have HB := Aside0.mk (Below.refl w.heap.size w)
 have H : ((band_Within.f k ([] : List Int) ([] : List Int) (-1)).bind fun bt185 => ((band_Within.f k ([] : List Int) ([] : List Int) 0).bind fun bt188 => ((band_Within.f k (([3] : List Int)) (([3, 4] : List Int)) 4611686018427387904).bind fun bt197 => ((band_Run.f k (([1, 2] : List Int)) (([2, 1] : List Int))).bind fun bt206 => ((band_Run.f k (([7] : List Int)) (([7] : List Int))).bind fun bt216 => ((tattinglaw19_awake.f k).bind fun t220 => (if t220 = true then (if bt185.2.2 = 1 then (if bt188.2.2 = 0 then (if bt188.1 = 0 then (if bt188.2.1 = 1 then (if bt197.2.2 = 0 then (if bt197.1 = 1 then (if bt197.2.1 = 6 then (if (bt206.1.length : Int) = 1 then (if bt206.2 = 13 then (if (bt216.1.length : Int) = 1 then (if bt216.2 = 2 then ((band_Cells.f k (-1) 2 5).bind fun t221 => (if t221 = 0 then ((band_Cells.f k 2 2 (-1)).bind fun t222 => (if t222 = 0 then ((band_Cells.f k 1099511627776 2 1).bind fun t223 => (if t223 = 0 then ((band_Cells.f k 2 4 1).bind fun t224 => (if t224 = 0 then ((band_Cells.f k 0 3 3).bind fun t225 => (some (t225 == 4))) else (some false))) else (some false))) else (some false))) else (some false))) else (some false)) else (some false)) else (some false)) else (some false)) else (some false)) else (some false)) else (some false)) else (some false)) else (some false)) else (some false)) else (some false)) else (some false)))))))) = some r := h
 clear h
 replace H := Option.bind_eq_some_iff.mp H
 obtain ⟨⟨t185, t186, t187⟩, A10, H⟩ := H
 replace H : ((band_Within.f k ([] : List Int) ([] : List Int) 0).bind fun bt188 => ((band_Within.f k (([3] : List Int)) (([3, 4] : List Int)) 4611686018427387904).bind fun bt197 => ((band_Run.f k (([1, 2] : List Int)) (([2, 1] : List Int))).bind fun bt206 => ((band_Run.f k (([7] : List Int)) (([7] : List Int))).bind fun bt216 => ((tattinglaw19_awake.f k).bind fun t220 => (if t220 = true then (if t187 = 1 then (if bt188.2.2 = 0 then (if bt188.1 = 0 then (if bt188.2.1 = 1 then (if bt197.2.2 = 0 then (if bt197.1 = 1 then (if bt197.2.1 = 6 then (if (bt206.1.length : Int) = 1 then (if bt206.2 = 13 then (if (bt216.1.length : Int) = 1 then (if bt216.2 = 2 then ((band_Cells.f k (-1) 2 5).bind fun t221 => (if t221 = 0 then ((band_Cells.f k 2 2 (-1)).bind fun t222 => (if t222 = 0 then ((band_Cells.f k 1099511627776 2 1).bind fun t223 => (if t223 = 0 then ((band_Cells.f k 2 4 1).bind fun t224 => (if t224 = 0 then ((band_Cells.f k 0 3 3).bind fun t225 => (some (t225 == 4))) else (some false))) else (some false))) else (some false))) else (some false))) else (some false)) else (some false)) else (some false)) else (some false)) else (some false)) else (some false)) else (some false)) else (some false)) else (some false)) else (some false)) else (some false)) else (some false))))))) = some r := H
 have A1 := Aside0.mk A10
 clear A10
 replace H := Option.bind_eq_some_iff.mp H
 obtain ⟨⟨t188, t189, t190⟩, A20, H⟩ := H
 replace H : ((band_Within.f k (([3] : List Int)) (([3, 4] : List Int)) 4611686018427387904).bind fun bt197 => ((band_Run.f k (([1, 2] : List Int)) (([2, 1] : List Int))).bind fun bt206 => ((band_Run.f k (([7] : List Int)) (([7] : List Int))).bind fun bt216 => ((tattinglaw19_awake.f k).bind fun t220 => (if t220 = true then (if t187 = 1 then (if t190 = 0 then (if t188 = 0 then (if t189 = 1 then (if bt197.2.2 = 0 then (if bt197.1 = 1 then (if bt197.2.1 = 6 then (if (bt206.1.length : Int) = 1 then (if bt206.2 = 13 then (if (bt216.1.length : Int) = 1 then (if bt216.2 = 2 then ((band_Cells.f k (-1) 2 5).bind fun t221 => (if t221 = 0 then ((band_Cells.f k 2 2 (-1)).bind fun t222 => (if t222 = 0 then ((band_Cells.f k 1099511627776 2 1).bind fun t223 => (if t223 = 0 then ((band_Cells.f k 2 4 1).bind fun t224 => (if t224 = 0 then ((band_Cells.f k 0 3 3).bind fun t225 => (some (t225 == 4))) else (some false))) else (some false))) else (some false))) else (some false))) else (some false)) else (some false)) else (some false)) else (some false)) else (some false)) else (some false)) else (some false)) else (some false)) else (some false)) else (some false)) else (some false)) else (some false)))))) = some r := H
 have A2 := Aside0.mk A20
 clear A20
 obtain ⟨y191, hy191⟩ : ∃ y_ : List Int, y_ = (([3] : List Int)) := ⟨_, rfl⟩
 replace H : ((band_Within.f k y191 (([3, 4] : List Int)) 4611686018427387904).bind fun bt197 => ((band_Run.f k (([1, 2] : List Int)) (([2, 1] : List Int))).bind fun bt206 => ((band_Run.f k (([7] : List Int)) (([7] : List Int))).bind fun bt216 => ((tattinglaw19_awake.f k).bind fun t220 => (if t220 = true then (if t187 = 1 then (if t190 = 0 then (if t188 = 0 then (if t189 = 1 then (if bt197.2.2 = 0 then (if bt197.1 = 1 then (if bt197.2.1 = 6 then (if (bt206.1.length : Int) = 1 then (if bt206.2 = 13 then (if (bt216.1.length : Int) = 1 then (if bt216.2 = 2 then ((band_Cells.f k (-1) 2 5).bind fun t221 => (if t221 = 0 then ((band_Cells.f k 2 2 (-1)).bind fun t222 => (if t222 = 0 then ((band_Cells.f k 1099511627776 2 1).bind fun t223 => (if t223 = 0 then ((band_Cells.f k 2 4 1).bind fun t224 => (if t224 = 0 then ((band_Cells.f k 0 3 3).bind fun t225 => (some (t225 == 4))) else (some false))) else (some false))) else (some false))) else (some false))) else (some false)) else (some false)) else (some false)) else (some false)) else (some false)) else (some false)) else (some false)) else (some false)) else (some false)) else (some false)) else (some false)) else (some false)))))) = some r := by first | (rw [hy191]; with_reducible exact H) | (have H2_ := (Option.bind_some _ _).symm.trans H; rw [hy191]; with_reducible exact H2_) | (have H2_ := (Option.bind_some _ _).symm.trans H; with_reducible exact H2_) | with_reducible exact H | (rw [hy191]; exact H) | exact H
 have Ny191 := Aside0.mk hy191
 clear hy191
 obtain ⟨y194, hy194⟩ : ∃ y_ : List Int, y_ = (([3, 4] : List Int)) := ⟨_, rfl⟩
 replace H : ((band_Within.f k y191 y194 4611686018427387904).bind fun bt197 => ((band_Run.f k (([1, 2] : List Int)) (([2, 1] : List Int))).bind fun bt206 => ((band_Run.f k (([7] : List Int)) (([7] : List Int))).bind fun bt216 => ((tattinglaw19_awake.f k).bind fun t220 => (if t220 = true then (if t187 = 1 then (if t190 = 0 then (if t188 = 0 then (if t189 = 1 then (if bt197.2.2 = 0 then (if bt197.1 = 1 then (if bt197.2.1 = 6 then (if (bt206.1.length : Int) = 1 then (if bt206.2 = 13 then (if (bt216.1.length : Int) = 1 then (if bt216.2 = 2 then ((band_Cells.f k (-1) 2 5).bind fun t221 => (if t221 = 0 then ((band_Cells.f k 2 2 (-1)).bind fun t222 => (if t222 = 0 then ((band_Cells.f k 1099511627776 2 1).bind fun t223 => (if t223 = 0 then ((band_Cells.f k 2 4 1).bind fun t224 => (if t224 = 0 then ((band_Cells.f k 0 3 3).bind fun t225 => (some (t225 == 4))) else (some false))) else (some false))) else (some false))) else (some false))) else (some false)) else (some false)) else (some false)) else (some false)) else (some false)) else (some false)) else (some false)) else (some false)) else (some false)) else (some false)) else (some false)) else (some false)))))) = some r := by first | (rw [hy194]; with_reducible exact H) | (have H2_ := (Option.bind_some _ _).symm.trans H; rw [hy194]; with_reducible exact H2_) | (have H2_ := (Option.bind_some _ _).symm.trans H; with_reducible exact H2_) | with_reducible exact H | (rw [hy194]; exact H) | exact H
 have Ny194 := Aside0.mk hy194
 clear hy194
 replace H := Option.bind_eq_some_iff.mp H
 obtain ⟨⟨t197, t198, t199⟩, A30, H⟩ := H
 replace H : ((band_Run.f k (([1, 2] : List Int)) (([2, 1] : List Int))).bind fun bt206 => ((band_Run.f k (([7] : List Int)) (([7] : List Int))).bind fun bt216 => ((tattinglaw19_awake.f k).bind fun t220 => (if t220 = true then (if t187 = 1 then (if t190 = 0 then (if t188 = 0 then (if t189 = 1 then (if t199 = 0 then (if t197 = 1 then (if t198 = 6 then (if (bt206.1.length : Int) = 1 then (if bt206.2 = 13 then (if (bt216.1.length : Int) = 1 then (if bt216.2 = 2 then ((band_Cells.f k (-1) 2 5).bind fun t221 => (if t221 = 0 then ((band_Cells.f k 2 2 (-1)).bind fun t222 => (if t222 = 0 then ((band_Cells.f k 1099511627776 2 1).bind fun t223 => (if t223 = 0 then ((band_Cells.f k 2 4 1).bind fun t224 => (if t224 = 0 then ((band_Cells.f k 0 3 3).bind fun t225 => (some (t225 == 4))) else (some false))) else (some false))) else (some false))) else (some false))) else (some false)) else (some false)) else (some false)) else (some false)) else (some false)) else (some false)) else (some false)) else (some false)) else (some false)) else (some false)) else (some false)) else (some false))))) = some r := H
 have A3 := Aside0.mk A30
 clear A30
 obtain ⟨y200, hy200⟩ : ∃ y_ : List Int, y_ = (([1, 2] : List Int)) := ⟨_, rfl⟩
 replace H : ((band_Run.f k y200 (([2, 1] : List Int))).bind fun bt206 => ((band_Run.f k (([7] : List Int)) (([7] : List Int))).bind fun bt216 => ((tattinglaw19_awake.f k).bind fun t220 => (if t220 = true then (if t187 = 1 then (if t190 = 0 then (if t188 = 0 then (if t189 = 1 then (if t199 = 0 then (if t197 = 1 then (if t198 = 6 then (if (bt206.1.length : Int) = 1 then (if bt206.2 = 13 then (if (bt216.1.length : Int) = 1 then (if bt216.2 = 2 then ((band_Cells.f k (-1) 2 5).bind fun t221 => (if t221 = 0 then ((band_Cells.f k 2 2 (-1)).bind fun t222 => (if t222 = 0 then ((band_Cells.f k 1099511627776 2 1).bind fun t223 => (if t223 = 0 then ((band_Cells.f k 2 4 1).bind fun t224 => (if t224 = 0 then ((band_Cells.f k 0 3 3).bind fun t225 => (some (t225 == 4))) else (some false))) else (some false))) else (some false))) else (some false))) else (some false)) else (some false)) else (some false)) else (some false)) else (some false)) else (some false)) else (some false)) else (some false)) else (some false)) else (some false)) else (some false)) else (some false))))) = some r := by first | (rw [hy200]; with_reducible exact H) | (have H2_ := (Option.bind_some _ _).symm.trans H; rw [hy200]; with_reducible exact H2_) | (have H2_ := (Option.bind_some _ _).symm.trans H; with_reducible exact H2_) | with_reducible exact H | (rw [hy200]; exact H) | exact H
 have Ny200 := Aside0.mk hy200
 clear hy200
 obtain ⟨y203, hy203⟩ : ∃ y_ : List Int, y_ = (([2, 1] : List Int)) := ⟨_, rfl⟩
 replace H : ((band_Run.f k y200 y203).bind fun bt206 => ((band_Run.f k (([7] : List Int)) (([7] : List Int))).bind fun bt216 => ((tattinglaw19_awake.f k).bind fun t220 => (if t220 = true then (if t187 = 1 then (if t190 = 0 then (if t188 = 0 then (if t189 = 1 then (if t199 = 0 then (if t197 = 1 then (if t198 = 6 then (if (bt206.1.length : Int) = 1 then (if bt206.2 = 13 then (if (bt216.1.length : Int) = 1 then (if bt216.2 = 2 then ((band_Cells.f k (-1) 2 5).bind fun t221 => (if t221 = 0 then ((band_Cells.f k 2 2 (-1)).bind fun t222 => (if t222 = 0 then ((band_Cells.f k 1099511627776 2 1).bind fun t223 => (if t223 = 0 then ((band_Cells.f k 2 4 1).bind fun t224 => (if t224 = 0 then ((band_Cells.f k 0 3 3).bind fun t225 => (some (t225 == 4))) else (some false))) else (some false))) else (some false))) else (some false))) else (some false)) else (some false)) else (some false)) else (some false)) else (some false)) else (some false)) else (some false)) else (some false)) else (some false)) else (some false)) else (some false)) else (some false))))) = some r := by first | (rw [hy203]; with_reducible exact H) | (have H2_ := (Option.bind_some _ _).symm.trans H; rw [hy203]; with_reducible exact H2_) | (have H2_ := (Option.bind_some _ _).symm.trans H; with_reducible exact H2_) | with_reducible exact H | (rw [hy203]; exact H) | exact H
 have Ny203 := Aside0.mk hy203
 clear hy203
 replace H := Option.bind_eq_some_iff.mp H
 obtain ⟨⟨t206, t207⟩, A40, H⟩ := H
 replace H : ((band_Run.f k (([7] : List Int)) (([7] : List Int))).bind fun bt216 => ((tattinglaw19_awake.f k).bind fun t220 => (if t220 = true then (if t187 = 1 then (if t190 = 0 then (if t188 = 0 then (if t189 = 1 then (if t199 = 0 then (if t197 = 1 then (if t198 = 6 then (if (t206.length : Int) = 1 then (if t207 = 13 then (if (bt216.1.length : Int) = 1 then (if bt216.2 = 2 then ((band_Cells.f k (-1) 2 5).bind fun t221 => (if t221 = 0 then ((band_Cells.f k 2 2 (-1)).bind fun t222 => (if t222 = 0 then ((band_Cells.f k 1099511627776 2 1).bind fun t223 => (if t223 = 0 then ((band_Cells.f k 2 4 1).bind fun t224 => (if t224 = 0 then ((band_Cells.f k 0 3 3).bind fun t225 => (some (t225 == 4))) else (some false))) else (some false))) else (some false))) else (some false))) else (some false)) else (some false)) else (some false)) else (some false)) else (some false)) else (some false)) else (some false)) else (some false)) else (some false)) else (some false)) else (some false)) else (some false)))) = some r := H
 have A4 := Aside0.mk A40
 clear A40
 obtain ⟨y210, hy210⟩ : ∃ y_ : List Int, y_ = (([7] : List Int)) := ⟨_, rfl⟩
 replace H : ((band_Run.f k y210 (([7] : List Int))).bind fun bt216 => ((tattinglaw19_awake.f k).bind fun t220 => (if t220 = true then (if t187 = 1 then (if t190 = 0 then (if t188 = 0 then (if t189 = 1 then (if t199 = 0 then (if t197 = 1 then (if t198 = 6 then (if (t206.length : Int) = 1 then (if t207 = 13 then (if (bt216.1.length : Int) = 1 then (if bt216.2 = 2 then ((band_Cells.f k (-1) 2 5).bind fun t221 => (if t221 = 0 then ((band_Cells.f k 2 2 (-1)).bind fun t222 => (if t222 = 0 then ((band_Cells.f k 1099511627776 2 1).bind fun t223 => (if t223 = 0 then ((band_Cells.f k 2 4 1).bind fun t224 => (if t224 = 0 then ((band_Cells.f k 0 3 3).bind fun t225 => (some (t225 == 4))) else (some false))) else (some false))) else (some false))) else (some false))) else (some false)) else (some false)) else (some false)) else (some false)) else (some false)) else (some false)) else (some false)) else (some false)) else (some false)) else (some false)) else (some false)) else (some false)))) = some r := by first | (rw [hy210]; with_reducible exact H) | (have H2_ := (Option.bind_some _ _).symm.trans H; rw [hy210]; with_reducible exact H2_) | (have H2_ := (Option.bind_some _ _).symm.trans H; with_reducible exact H2_) | with_reducible exact H | (rw [hy210]; exact H) | exact H
 have Ny210 := Aside0.mk hy210
 clear hy210
 obtain ⟨y213, hy213⟩ : ∃ y_ : List Int, y_ = (([7] : List Int)) := ⟨_, rfl⟩
 replace H : ((band_Run.f k y210 y213).bind fun bt216 => ((tattinglaw19_awake.f k).bind fun t220 => (if t220 = true then (if t187 = 1 then (if t190 = 0 then (if t188 = 0 then (if t189 = 1 then (if t199 = 0 then (if t197 = 1 then (if t198 = 6 then (if (t206.length : Int) = 1 then (if t207 = 13 then (if (bt216.1.length : Int) = 1 then (if bt216.2 = 2 then ((band_Cells.f k (-1) 2 5).bind fun t221 => (if t221 = 0 then ((band_Cells.f k 2 2 (-1)).bind fun t222 => (if t222 = 0 then ((band_Cells.f k 1099511627776 2 1).bind fun t223 => (if t223 = 0 then ((band_Cells.f k 2 4 1).bind fun t224 => (if t224 = 0 then ((band_Cells.f k 0 3 3).bind fun t225 => (some (t225 == 4))) else (some false))) else (some false))) else (some false))) else (some false))) else (some false)) else (some false)) else (some false)) else (some false)) else (some false)) else (some false)) else (some false)) else (some false)) else (some false)) else (some false)) else (some false)) else (some false)))) = some r := by first | (rw [hy213]; with_reducible exact H) | (have H2_ := (Option.bind_some _ _).symm.trans H; rw [hy213]; with_reducible exact H2_) | (have H2_ := (Option.bind_some _ _).symm.trans H; with_reducible exact H2_) | with_reducible exact H | (rw [hy213]; exact H) | exact H
 have Ny213 := Aside0.mk hy213
 clear hy213
 replace H := Option.bind_eq_some_iff.mp H
 obtain ⟨⟨t216, t217⟩, A50, H⟩ := H
 replace H : ((tattinglaw19_awake.f k).bind fun t220 => (if t220 = true then (if t187 = 1 then (if t190 = 0 then (if t188 = 0 then (if t189 = 1 then (if t199 = 0 then (if t197 = 1 then (if t198 = 6 then (if (t206.length : Int) = 1 then (if t207 = 13 then (if (t216.length : Int) = 1 then (if t217 = 2 then ((band_Cells.f k (-1) 2 5).bind fun t221 => (if t221 = 0 then ((band_Cells.f k 2 2 (-1)).bind fun t222 => (if t222 = 0 then ((band_Cells.f k 1099511627776 2 1).bind fun t223 => (if t223 = 0 then ((band_Cells.f k 2 4 1).bind fun t224 => (if t224 = 0 then ((band_Cells.f k 0 3 3).bind fun t225 => (some (t225 == 4))) else (some false))) else (some false))) else (some false))) else (some false))) else (some false)) else (some false)) else (some false)) else (some false)) else (some false)) else (some false)) else (some false)) else (some false)) else (some false)) else (some false)) else (some false)) else (some false))) = some r := H
 have A5 := Aside0.mk A50
 clear A50
 replace H := Option.bind_eq_some_iff.mp H
 obtain ⟨t220, A60, H⟩ := H
 replace H : (if t220 = true then (if t187 = 1 then (if t190 = 0 then (if t188 = 0 then (if t189 = 1 then (if t199 = 0 then (if t197 = 1 then (if t198 = 6 then (if (t206.length : Int) = 1 then (if t207 = 13 then (if (t216.length : Int) = 1 then (if t217 = 2 then ((band_Cells.f k (-1) 2 5).bind fun t221 => (if t221 = 0 then ((band_Cells.f k 2 2 (-1)).bind fun t222 => (if t222 = 0 then ((band_Cells.f k 1099511627776 2 1).bind fun t223 => (if t223 = 0 then ((band_Cells.f k 2 4 1).bind fun t224 => (if t224 = 0 then ((band_Cells.f k 0 3 3).bind fun t225 => (some (t225 == 4))) else (some false))) else (some false))) else (some false))) else (some false))) else (some false)) else (some false)) else (some false)) else (some false)) else (some false)) else (some false)) else (some false)) else (some false)) else (some false)) else (some false)) else (some false)) else (some false)) = some r := H
 have A6 := Aside0.mk A60
 clear A60
 by_cases c7 : t220 = true
 ·subst c7
  have H1 : (if t187 = 1 then (if t190 = 0 then (if t188 = 0 then (if t189 = 1 then (if t199 = 0 then (if t197 = 1 then (if t198 = 6 then (if (t206.length : Int) = 1 then (if t207 = 13 then (if (t216.length : Int) = 1 then (if t217 = 2 then ((band_Cells.f k (-1) 2 5).bind fun t221 => (if t221 = 0 then ((band_Cells.f k 2 2 (-1)).bind fun t222 => (if t222 = 0 then ((band_Cells.f k 1099511627776 2 1).bind fun t223 => (if t223 = 0 then ((band_Cells.f k 2 4 1).bind fun t224 => (if t224 = 0 then ((band_Cells.f k 0 3 3).bind fun t225 => (some (t225 == 4))) else (some false))) else (some false))) else (some false))) else (some false))) else (some false)) else (some false)) else (some false)) else (some false)) else (some false)) else (some false)) else (some false)) else (some false)) else (some false)) else (some false)) else (some false)) = some r := by rw [if_pos rfl] at H; exact H
  clear H
  have H := H1
  clear H1
  by_cases c8 : t187 = 1
  ·rw [if_pos c8] at H
   have c8b0 : (t187 == 1) = true := beq_iff_eq.mpr c8
   have c8b1 : (t187 != 1) = false := bne_eq_false_iff_eq.mpr c8
   clear c8
   by_cases c9 : t190 = 0
   ·rw [if_pos c9] at H
    have c9b0 : (t190 == 0) = true := beq_iff_eq.mpr c9
    have c9b1 : (t190 != 0) = false := bne_eq_false_iff_eq.mpr c9
    clear c9
    by_cases c10 : t188 = 0
    ·rw [if_pos c10] at H
     have c10b0 : (t188 == 0) = true := beq_iff_eq.mpr c10
     have c10b1 : (t188 != 0) = false := bne_eq_false_iff_eq.mpr c10
     clear c10
     by_cases c11 : t189 = 1
     ·rw [if_pos c11] at H
      have c11b0 : (t189 == 1) = true := beq_iff_eq.mpr c11
      have c11b1 : (t189 != 1) = false := bne_eq_false_iff_eq.mpr c11
      clear c11
      by_cases c12 : t199 = 0
      ·rw [if_pos c12] at H
       have c12b0 : (t199 == 0) = true := beq_iff_eq.mpr c12
       have c12b1 : (t199 != 0) = false := bne_eq_false_iff_eq.mpr c12
       clear c12
       by_cases c13 : t197 = 1
       ·rw [if_pos c13] at H
        have c13b0 : (t197 == 1) = true := beq_iff_eq.mpr c13
        have c13b1 : (t197 != 1) = false := bne_eq_false_iff_eq.mpr c13
        clear c13
        by_cases c14 : t198 = 6
        ·rw [if_pos c14] at H
         have c14b0 : (t198 == 6) = true := beq_iff_eq.mpr c14
         have c14b1 : (t198 != 6) = false := bne_eq_false_iff_eq.mpr c14
         clear c14
         by_cases c15 : (t206.length : Int) = 1
         ·rw [if_pos c15] at H
          have c15b0 : ((t206.length : Int) == 1) = true := beq_iff_eq.mpr c15
          have c15b1 : ((t206.length : Int) != 1) = false := bne_eq_false_iff_eq.mpr c15
          clear c15
          by_cases c16 : t207 = 13
          ·rw [if_pos c16] at H
           have c16b0 : (t207 == 13) = true := beq_iff_eq.mpr c16
           have c16b1 : (t207 != 13) = false := bne_eq_false_iff_eq.mpr c16
           clear c16
           by_cases c17 : (t216.length : Int) = 1
           ·rw [if_pos c17] at H
            have c17b0 : ((t216.length : Int) == 1) = true := beq_iff_eq.mpr c17
            have c17b1 : ((t216.length : Int) != 1) = false := bne_eq_false_iff_eq.mpr c17
            clear c17
            by_cases c18 : t217 = 2
            ·rw [if_pos c18] at H
             have c18b0 : (t217 == 2) = true := beq_iff_eq.mpr c18
             have c18b1 : (t217 != 2) = false := bne_eq_false_iff_eq.mpr c18
             clear c18
             replace H := Option.bind_eq_some_iff.mp H
             obtain ⟨t221, A190, H⟩ := H
             replace H : (if t221 = 0 then ((band_Cells.f k 2 2 (-1)).bind fun t222 => (if t222 = 0 then ((band_Cells.f k 1099511627776 2 1).bind fun t223 => (if t223 = 0 then ((band_Cells.f k 2 4 1).bind fun t224 => (if t224 = 0 then ((band_Cells.f k 0 3 3).bind fun t225 => (some (t225 == 4))) else (some false))) else (some false))) else (some false))) else (some false)) = some r := H
             have A19 := Aside0.mk A190
             clear A190
             by_cases c20 : t221 = 0
             ·rw [if_pos c20] at H
              have c20b0 : (t221 == 0) = true := beq_iff_eq.mpr c20
              have c20b1 : (t221 != 0) = false := bne_eq_false_iff_eq.mpr c20
              clear c20
              replace H := Option.bind_eq_some_iff.mp H
              obtain ⟨t222, A210, H⟩ := H
              replace H : (if t222 = 0 then ((band_Cells.f k 1099511627776 2 1).bind fun t223 => (if t223 = 0 then ((band_Cells.f k 2 4 1).bind fun t224 => (if t224 = 0 then ((band_Cells.f k 0 3 3).bind fun t225 => (some (t225 == 4))) else (some false))) else (some false))) else (some false)) = some r := H
              have A21 := Aside0.mk A210
              clear A210
              by_cases c22 : t222 = 0
              ·rw [if_pos c22] at H
               have c22b0 : (t222 == 0) = true := beq_iff_eq.mpr c22
               have c22b1 : (t222 != 0) = false := bne_eq_false_iff_eq.mpr c22
               clear c22
               replace H := Option.bind_eq_some_iff.mp H
               obtain ⟨t223, A230, H⟩ := H
               replace H : (if t223 = 0 then ((band_Cells.f k 2 4 1).bind fun t224 => (if t224 = 0 then ((band_Cells.f k 0 3 3).bind fun t225 => (some (t225 == 4))) else (some false))) else (some false)) = some r := H
               have A23 := Aside0.mk A230
               clear A230
               by_cases c24 : t223 = 0
               ·rw [if_pos c24] at H
                have c24b0 : (t223 == 0) = true := beq_iff_eq.mpr c24
                have c24b1 : (t223 != 0) = false := bne_eq_false_iff_eq.mpr c24
                clear c24
                replace H := Option.bind_eq_some_iff.mp H
                obtain ⟨t224, A250, H⟩ := H
                replace H : (if t224 = 0 then ((band_Cells.f k 0 3 3).bind fun t225 => (some (t225 == 4))) else (some false)) = some r := H
                have A25 := Aside0.mk A250
                clear A250
                by_cases c26 : t224 = 0
                ·rw [if_pos c26] at H
                 have c26b0 : (t224 == 0) = true := beq_iff_eq.mpr c26
                 have c26b1 : (t224 != 0) = false := bne_eq_false_iff_eq.mpr c26
                 clear c26
                 replace H := Option.bind_eq_some_iff.mp H
                 obtain ⟨t225, A270, H⟩ := H
                 replace H : (some (t225 == 4)) = some r := H
                 have A27 := Aside0.mk A270
                 clear A270
                 obtain rfl := Option.some.inj H
                 go_enter Try.func7, Try.ntmps7
                 try dsimp only [List.append]
                 go_wp2_with (first | ((first | (with_reducible refine gate_callee (f := 13) rfl ?_); refine goesL_ (some 15) rfl rfl Try.func13 (by kernel_rfl) rfl #[.slice none (([] : List Int)).length 0, .slice none (([] : List Int)).length 0, .int .i64 (-1)] rfl (by (try simp only [List.map_toArray, List.map_cons, List.map_nil]); first | done | rfl | (simp only [List.length_drop, List.length_take]; rfl)) ?_ | go_at_call 13; refine calls_of_args (args' := #[.slice none (([] : List Int)).length 0, .slice none (([] : List Int)).length 0, .int .i64 (-1)]) (by rfl) ?_); (with_reducible refine (band_Within.calls k none 0 ([] : List Int) none 0 ([] : List Int) (-1) t185 t186 t187 _ ?side1 ?side2 ?side3 ?side4 A1.out).mono ?_); (case side1 => exact Kd.C_nil _ _); (case side2 => exact Nat.le_refl _); (case side3 => exact Kd.C_nil _ _); (case side4 => exact Nat.le_refl _); rintro e w28 ⟨rfl, hb⟩; (try refine ⟨_, rfl, ?_⟩); have n0_ := Aside0.mk (below_step (by repeat (first | (with_reducible first | exact HB.out | apply below_alloc | apply pw_below_drewN | apply below_drew1) | exact HB.out)) hb); clear HB; have HB := n0_; clear n0_; (try clear hb); (try clear hb2); (try clear hk); (try clear hi)) | ((first | (with_reducible refine gate_callee (f := 13) rfl ?_); refine goesL_ (some 20) rfl rfl Try.func13 (by kernel_rfl) rfl #[.slice none (([] : List Int)).length 0, .slice none (([] : List Int)).length 0, .int .i64 0] rfl (by (try simp only [List.map_toArray, List.map_cons, List.map_nil]); first | done | rfl | (simp only [List.length_drop, List.length_take]; rfl)) ?_ | go_at_call 13; refine calls_of_args (args' := #[.slice none (([] : List Int)).length 0, .slice none (([] : List Int)).length 0, .int .i64 0]) (by rfl) ?_); (with_reducible refine (band_Within.calls k none 0 ([] : List Int) none 0 ([] : List Int) 0 t188 t189 t190 _ ?side1 ?side2 ?side3 ?side4 A2.out).mono ?_); (case side1 => exact Kd.C_nil _ _); (case side2 => exact Nat.le_refl _); (case side3 => exact Kd.C_nil _ _); (case side4 => exact Nat.le_refl _); rintro e w29 ⟨rfl, hb⟩; (try refine ⟨_, rfl, ?_⟩); have n0_ := Aside0.mk (below_step (by repeat (first | (with_reducible first | exact HB.out | apply below_alloc | apply pw_below_drewN | apply below_drew1) | exact HB.out)) hb); clear HB; have HB := n0_; clear n0_; (try clear hb); (try clear hb2); (try clear hk); (try clear hi)) | ((with_reducible refine gate_dst (N := 25) rfl ?_); (try (refine gate_guard (by rfl) ?_; dsimp only)); refine Kd.R_lit (Kd.int .i64) _ 3 ?hg (N := 25) ?hd (xs := ([3] : List Int)) (inner := [.int .i64 3]) (ok := fun _ => True) (okp := fun _ => True) ?hr ?hp (fun _ hk => hk) trivial (Below.refl _ _) (Nat.le_refl _) (by simp) ?_; (case hd => rfl); (case hg => rfl); (case hr => first | (go_simp; done) | (go_simp; rfl)); (case hp => exact (Reps.one (show Kd.M (Kd.int .i64) _ _ _ 3 [.int .i64 3] from rfl) (Reps.none _ _))); intro v192 w30 ho31 hb hg_ hnew_; (try clear hg_); (try clear hnew_); (first | rw [← Ny191.out] at ho31 | (simp only [Int.reduceToNat] at ho31; rw [← Ny191.out] at ho31)); have n0_ := Aside0.mk (Kd.R_lower ho31 (below_size (by repeat (first | (with_reducible first | exact HB.out | apply below_alloc | apply pw_below_drewN | apply below_drew1) | exact HB.out)))); have n1_ := Aside0.mk (below_step (by repeat (first | (with_reducible first | exact HB.out | apply below_alloc | apply pw_below_drewN | apply below_drew1) | exact HB.out)) hb); clear HB; have HO193 := n0_; have HB := n1_; clear n0_ n1_; (try clear hb); (try clear ho31)) | ((with_reducible refine gate_dst (N := 26) rfl ?_); (try (refine gate_guard (by rfl) ?_; dsimp only)); refine Kd.R_lit (Kd.int .i64) _ 3 ?hg (N := 26) ?hd (xs := ([3, 4] : List Int)) (inner := [.int .i64 3, .int .i64 4]) (ok := fun _ => True) (okp := fun _ => True) ?hr ?hp (fun _ hk => hk) trivial (Below.refl _ _) (Nat.le_refl _) (by simp) ?_; (case hd => rfl); (case hg => rfl); (case hr => first | (go_simp; done) | (go_simp; rfl)); (case hp => exact (Reps.one (show Kd.M (Kd.int .i64) _ _ _ 3 [.int .i64 3] from rfl) (Reps.one (show Kd.M (Kd.int .i64) _ _ _ 4 [.int .i64 4] from rfl) (Reps.none _ _)))); intro v195 w32 ho33 hb hg_ hnew_; (try clear hg_); (try clear hnew_); (first | rw [← Ny194.out] at ho33 | (simp only [Int.reduceToNat] at ho33; rw [← Ny194.out] at ho33)); have n0_ := Aside0.mk (Kd.R_elder' (by (with_reducible repeat (first | apply Kd.R_alloc | apply Kd.R_drewN | apply Kd.R_drew)); exact HO193.out) (Kd.R_base ho33) hb); have n1_ := Aside0.mk (Kd.R_lower (Kd.R_new' ho33 (Kd.R_lt (by (with_reducible repeat (first | apply Kd.R_alloc | apply Kd.R_drewN | apply Kd.R_drew)); exact HO193.out))) (below_size (by repeat (first | (with_reducible first | exact HB.out | apply below_alloc | apply pw_below_drewN | apply below_drew1) | exact HB.out)))); have n2_ := Aside0.mk (below_step (by repeat (first | (with_reducible first | exact HB.out | apply below_alloc | apply pw_below_drewN | apply below_drew1) | exact HB.out)) hb); clear HO193; clear HB; have HO193 := n0_; have HO196 := n1_; have HB := n2_; clear n0_ n1_ n2_; (try clear hb); (try clear ho33); obtain ⟨Ao34, co34, eo34⟩ := Kd.R_slice HO193.out; subst eo34; obtain ⟨Ao35, co35, eo35⟩ := Kd.R_slice HO196.out; subst eo35) | ((first | (with_reducible refine gate_callee (f := 13) rfl ?_); refine goesL_ (some 27) rfl rfl Try.func13 (by kernel_rfl) rfl #[.slice Ao34 y191.length co34, .slice Ao35 y194.length co35, .int .i64 4611686018427387904] rfl (by (try simp only [List.map_toArray, List.map_cons, List.map_nil]); first | done | rfl | (simp only [List.length_drop, List.length_take]; rfl)) ?_ | go_at_call 13); (with_reducible refine (band_Within.calls k _ _ y191 _ _ y194 4611686018427387904 t197 t198 t199 _ ?side1 ?side2 ?side3 ?side4 A3.out).mono ?_); (case side1 => repeat (first | exact (Kd.R_reads' HO193.out).2.2 | (with_reducible refine Kd.C_alloc ?_ _) | (with_reducible refine Kd.C_drewN ?_ _) | (with_reducible refine Kd.C_drew ?_))); (case side2 => exact (Kd.R_reads' HO193.out).2.1); (case side3 => repeat (first | exact (Kd.R_reads' HO196.out).2.2 | (with_reducible refine Kd.C_alloc ?_ _) | (with_reducible refine Kd.C_drewN ?_ _) | (with_reducible refine Kd.C_drew ?_))); (case side4 => exact (Kd.R_reads' HO196.out).2.1); rintro e w36 ⟨rfl, hb⟩; (try refine ⟨_, rfl, ?_⟩); have n0_ := Aside0.mk (Kd.R_below (by (with_reducible repeat (first | apply Kd.R_alloc | apply Kd.R_drewN | apply Kd.R_drew)); exact HO193.out) hb); have n1_ := Aside0.mk (Kd.R_below (by (with_reducible repeat (first | apply Kd.R_alloc | apply Kd.R_drewN | apply Kd.R_drew)); exact HO196.out) hb); have n2_ := Aside0.mk (below_step (by repeat (first | (with_reducible first | exact HB.out | apply below_alloc | apply pw_below_drewN | apply below_drew1) | exact HB.out)) hb); clear HO193; clear HO196; clear HB; have HO193 := n0_; have HO196 := n1_; have HB := n2_; clear n0_ n1_ n2_; (try clear hb); (try clear hb2); (try clear hk); (try clear hi)) | ((with_reducible refine gate_dst (N := 32) rfl ?_); (try (refine gate_guard (by rfl) ?_; dsimp only)); refine Kd.R_lit (Kd.int .i64) _ 3 ?hg (N := 32) ?hd (xs := ([1, 2] : List Int)) (inner := [.int .i64 1, .int .i64 2]) (ok := fun _ => True) (okp := fun _ => True) ?hr ?hp (fun _ hk => hk) trivial (Below.refl _ _) (Nat.le_refl _) (by simp) ?_; (case hd => rfl); (case hg => rfl); (case hr => first | (go_simp; done) | (go_simp; rfl)); (case hp => exact (Reps.one (show Kd.M (Kd.int .i64) _ _ _ 1 [.int .i64 1] from rfl) (Reps.one (show Kd.M (Kd.int .i64) _ _ _ 2 [.int .i64 2] from rfl) (Reps.none _ _)))); intro v201 w37 ho38 hb hg_ hnew_; (try clear hg_); (try clear hnew_); (first | rw [← Ny200.out] at ho38 | (simp only [Int.reduceToNat] at ho38; rw [← Ny200.out] at ho38)); have n0_ := Aside0.mk (Kd.R_elder' (by (with_reducible repeat (first | apply Kd.R_alloc | apply Kd.R_drewN | apply Kd.R_drew)); exact HO193.out) (Kd.R_base ho38) hb); have n1_ := Aside0.mk (Kd.R_elder' (by (with_reducible repeat (first | apply Kd.R_alloc | apply Kd.R_drewN | apply Kd.R_drew)); exact HO196.out) (Kd.R_base ho38) hb); have n2_ := Aside0.mk (Kd.R_lower (Kd.R_new' (Kd.R_new' ho38 (Kd.R_lt (by (with_reducible repeat (first | apply Kd.R_alloc | apply Kd.R_drewN | apply Kd.R_drew)); exact HO193.out))) (Kd.R_lt (by (with_reducible repeat (first | apply Kd.R_alloc | apply Kd.R_drewN | apply Kd.R_drew)); exact HO196.out))) (below_size (by repeat (first | (with_reducible first | exact HB.out | apply below_alloc | apply pw_below_drewN | apply below_drew1) | exact HB.out)))); have n3_ := Aside0.mk (below_step (by repeat (first | (with_reducible first | exact HB.out | apply below_alloc | apply pw_below_drewN | apply below_drew1) | exact HB.out)) hb); clear HO193; clear HO196; clear HB; have HO193 := n0_; have HO196 := n1_; have HO202 := n2_; have HB := n3_; clear n0_ n1_ n2_ n3_; (try clear hb); (try clear ho38)) | ((with_reducible refine gate_dst (N := 33) rfl ?_); (try (refine gate_guard (by rfl) ?_; dsimp only)); refine Kd.R_lit (Kd.int .i64) _ 3 ?hg (N := 33) ?hd (xs := ([2, 1] : List Int)) (inner := [.int .i64 2, .int .i64 1]) (ok := fun _ => True) (okp := fun _ => True) ?hr ?hp (fun _ hk => hk) trivial (Below.refl _ _) (Nat.le_refl _) (by simp) ?_; (case hd => rfl); (case hg => rfl); (case hr => first | (go_simp; done) | (go_simp; rfl)); (case hp => exact (Reps.one (show Kd.M (Kd.int .i64) _ _ _ 2 [.int .i64 2] from rfl) (Reps.one (show Kd.M (Kd.int .i64) _ _ _ 1 [.int .i64 1] from rfl) (Reps.none _ _)))); intro v204 w39 ho40 hb hg_ hnew_; (try clear hg_); (try clear hnew_); (first | rw [← Ny203.out] at ho40 | (simp only [Int.reduceToNat] at ho40; rw [← Ny203.out] at ho40)); have n0_ := Aside0.mk (Kd.R_elder' (by (with_reducible repeat (first | apply Kd.R_alloc | apply Kd.R_drewN | apply Kd.R_drew)); exact HO193.out) (Kd.R_base ho40) hb); have n1_ := Aside0.mk (Kd.R_elder' (by (with_reducible repeat (first | apply Kd.R_alloc | apply Kd.R_drewN | apply Kd.R_drew)); exact HO196.out) (Kd.R_base ho40) hb); have n2_ := Aside0.mk (Kd.R_elder' (by (with_reducible repeat (first | apply Kd.R_alloc | apply Kd.R_drewN | apply Kd.R_drew)); exact HO202.out) (Kd.R_base ho40) hb); have n3_ := Aside0.mk (Kd.R_lower (Kd.R_new' (Kd.R_new' (Kd.R_new' ho40 (Kd.R_lt (by (with_reducible repeat (first | apply Kd.R_alloc | apply Kd.R_drewN | apply Kd.R_drew)); exact HO193.out))) (Kd.R_lt (by (with_reducible repeat (first | apply Kd.R_alloc | apply Kd.R_drewN | apply Kd.R_drew)); exact HO196.out))) (Kd.R_lt (by (with_reducible repeat (first | apply Kd.R_alloc | apply Kd.R_drewN | apply Kd.R_drew)); exact HO202.out))) (below_size (by repeat (first | (with_reducible first | exact HB.out | apply below_alloc | apply pw_below_drewN | apply below_drew1) | exact HB.out)))); have n4_ := Aside0.mk (below_step (by repeat (first | (with_reducible first | exact HB.out | apply below_alloc | apply pw_below_drewN | apply below_drew1) | exact HB.out)) hb); clear HO193; clear HO196; clear HO202; clear HB; have HO193 := n0_; have HO196 := n1_; have HO202 := n2_; have HO205 := n3_; have HB := n4_; clear n0_ n1_ n2_ n3_ n4_; (try clear hb); (try clear ho40); obtain ⟨Ao41, co41, eo41⟩ := Kd.R_slice HO202.out; subst eo41; obtain ⟨Ao42, co42, eo42⟩ := Kd.R_slice HO205.out; subst eo42) | ((first | (with_reducible refine gate_callee (f := 15) rfl ?_); refine goesL_ (some 34) rfl rfl Try.func15 (by kernel_rfl) rfl #[.slice Ao41 y200.length co41, .slice Ao42 y203.length co42] rfl (by (try simp only [List.map_toArray, List.map_cons, List.map_nil]); first | done | rfl | (simp only [List.length_drop, List.length_take]; rfl)) ?_ | go_at_call 15); (with_reducible refine (band_Run.calls k _ _ y200 _ _ y203 t206 t207 _ ?side1 ?side2 ?side3 ?side4 A4.out).mono ?_); (case side1 => repeat (first | exact (Kd.R_reads' HO202.out).2.2 | (with_reducible refine Kd.C_alloc ?_ _) | (with_reducible refine Kd.C_drewN ?_ _) | (with_reducible refine Kd.C_drew ?_))); (case side2 => exact (Kd.R_reads' HO202.out).2.1); (case side3 => repeat (first | exact (Kd.R_reads' HO205.out).2.2 | (with_reducible refine Kd.C_alloc ?_ _) | (with_reducible refine Kd.C_drewN ?_ _) | (with_reducible refine Kd.C_drew ?_))); (case side4 => exact (Kd.R_reads' HO205.out).2.1); rintro e w43 ⟨v208, rfl, ho0, hb⟩; (try refine ⟨_, rfl, ?_⟩); have n0_ := Aside0.mk (Kd.R_below (by (with_reducible repeat (first | apply Kd.R_alloc | apply Kd.R_drewN | apply Kd.R_drew)); exact HO193.out) hb); have n1_ := Aside0.mk (Kd.R_below (by (with_reducible repeat (first | apply Kd.R_alloc | apply Kd.R_drewN | apply Kd.R_drew)); exact HO196.out) hb); have n2_ := Aside0.mk (Kd.R_below (by (with_reducible repeat (first | apply Kd.R_alloc | apply Kd.R_drewN | apply Kd.R_drew)); exact HO202.out) hb); have n3_ := Aside0.mk (Kd.R_below (by (with_reducible repeat (first | apply Kd.R_alloc | apply Kd.R_drewN | apply Kd.R_drew)); exact HO205.out) hb); have n4_ := Aside0.mk (Kd.R_lower ho0 (below_size (by repeat (first | (with_reducible first | exact HB.out | apply below_alloc | apply pw_below_drewN | apply below_drew1) | exact HB.out)))); have n5_ := Aside0.mk (below_step (by repeat (first | (with_reducible first | exact HB.out | apply below_alloc | apply pw_below_drewN | apply below_drew1) | exact HB.out)) hb); clear HO193; clear HO196; clear HO202; clear HO205; clear HB; have HO193 := n0_; have HO196 := n1_; have HO202 := n2_; have HO205 := n3_; have HO209 := n4_; have HB := n5_; clear n0_ n1_ n2_ n3_ n4_ n5_; (try clear hb); (try clear hb2); (try clear hk); (try clear hi); (try clear ho0)) | ((with_reducible refine gate_dst (N := 38) rfl ?_); (try (refine gate_guard (by rfl) ?_; dsimp only)); refine Kd.R_lit (Kd.int .i64) _ 3 ?hg (N := 38) ?hd (xs := ([7] : List Int)) (inner := [.int .i64 7]) (ok := fun _ => True) (okp := fun _ => True) ?hr ?hp (fun _ hk => hk) trivial (Below.refl _ _) (Nat.le_refl _) (by simp) ?_; (case hd => rfl); (case hg => rfl); (case hr => first | (go_simp; done) | (go_simp; rfl)); (case hp => exact (Reps.one (show Kd.M (Kd.int .i64) _ _ _ 7 [.int .i64 7] from rfl) (Reps.none _ _))); intro v211 w44 ho45 hb hg_ hnew_; (try clear hg_); (try clear hnew_); (first | rw [← Ny210.out] at ho45 | (simp only [Int.reduceToNat] at ho45; rw [← Ny210.out] at ho45)); have n0_ := Aside0.mk (Kd.R_elder' (by (with_reducible repeat (first | apply Kd.R_alloc | apply Kd.R_drewN | apply Kd.R_drew)); exact HO193.out) (Kd.R_base ho45) hb); have n1_ := Aside0.mk (Kd.R_elder' (by (with_reducible repeat (first | apply Kd.R_alloc | apply Kd.R_drewN | apply Kd.R_drew)); exact HO196.out) (Kd.R_base ho45) hb); have n2_ := Aside0.mk (Kd.R_elder' (by (with_reducible repeat (first | apply Kd.R_alloc | apply Kd.R_drewN | apply Kd.R_drew)); exact HO202.out) (Kd.R_base ho45) hb); have n3_ := Aside0.mk (Kd.R_elder' (by (with_reducible repeat (first | apply Kd.R_alloc | apply Kd.R_drewN | apply Kd.R_drew)); exact HO205.out) (Kd.R_base ho45) hb); have n4_ := Aside0.mk (Kd.R_below (by (with_reducible repeat (first | apply Kd.R_alloc | apply Kd.R_drewN | apply Kd.R_drew)); exact HO209.out) hb); have n5_ := Aside0.mk (Kd.R_lower (Kd.R_new' (Kd.R_new' (Kd.R_new' (Kd.R_new' ho45 (Kd.R_lt (by (with_reducible repeat (first | apply Kd.R_alloc | apply Kd.R_drewN | apply Kd.R_drew)); exact HO193.out))) (Kd.R_lt (by (with_reducible repeat (first | apply Kd.R_alloc | apply Kd.R_drewN | apply Kd.R_drew)); exact HO196.out))) (Kd.R_lt (by (with_reducible repeat (first | apply Kd.R_alloc | apply Kd.R_drewN | apply Kd.R_drew)); exact HO202.out))) (Kd.R_lt (by (with_reducible repeat (first | apply Kd.R_alloc | apply Kd.R_drewN | apply Kd.R_drew)); exact HO205.out))) (below_size (by repeat (first | (with_reducible first | exact HB.out | apply below_alloc | apply pw_below_drewN | apply below_drew1) | exact HB.out)))); have n6_ := Aside0.mk (below_step (by repeat (first | (with_reducible first | exact HB.out | apply below_alloc | apply pw_below_drewN | apply below_drew1) | exact HB.out)) hb); clear HO193; clear HO196; clear HO202; clear HO205; clear HO209; clear HB; have HO193 := n0_; have HO196 := n1_; have HO202 := n2_; have HO205 := n3_; have HO209 := n4_; have HO212 := n5_; have HB := n6_; clear n0_ n1_ n2_ n3_ n4_ n5_ n6_; (try clear hb); (try clear ho45)) | ((with_reducible refine gate_dst (N := 39) rfl ?_); (try (refine gate_guard (by rfl) ?_; dsimp only)); refine Kd.R_lit (Kd.int .i64) _ 3 ?hg (N := 39) ?hd (xs := ([7] : List Int)) (inner := [.int .i64 7]) (ok := fun _ => True) (okp := fun _ => True) ?hr ?hp (fun _ hk => hk) trivial (Below.refl _ _) (Nat.le_refl _) (by simp) ?_; (case hd => rfl); (case hg => rfl); (case hr => first | (go_simp; done) | (go_simp; rfl)); (case hp => exact (Reps.one (show Kd.M (Kd.int .i64) _ _ _ 7 [.int .i64 7] from rfl) (Reps.none _ _))); intro v214 w46 ho47 hb hg_ hnew_; (try clear hg_); (try clear hnew_); (first | rw [← Ny213.out] at ho47 | (simp only [Int.reduceToNat] at ho47; rw [← Ny213.out] at ho47)); have n0_ := Aside0.mk (Kd.R_elder' (by (with_reducible repeat (first | apply Kd.R_alloc | apply Kd.R_drewN | apply Kd.R_drew)); exact HO193.out) (Kd.R_base ho47) hb); have n1_ := Aside0.mk (Kd.R_elder' (by (with_reducible repeat (first | apply Kd.R_alloc | apply Kd.R_drewN | apply Kd.R_drew)); exact HO196.out) (Kd.R_base ho47) hb); have n2_ := Aside0.mk (Kd.R_elder' (by (with_reducible repeat (first | apply Kd.R_alloc | apply Kd.R_drewN | apply Kd.R_drew)); exact HO202.out) (Kd.R_base ho47) hb); have n3_ := Aside0.mk (Kd.R_elder' (by (with_reducible repeat (first | apply Kd.R_alloc | apply Kd.R_drewN | apply Kd.R_drew)); exact HO205.out) (Kd.R_base ho47) hb); have n4_ := Aside0.mk (Kd.R_below (by (with_reducible repeat (first | apply Kd.R_alloc | apply Kd.R_drewN | apply Kd.R_drew)); exact HO209.out) hb); have n5_ := Aside0.mk (Kd.R_elder' (by (with_reducible repeat (first | apply Kd.R_alloc | apply Kd.R_drewN | apply Kd.R_drew)); exact HO212.out) (Kd.R_base ho47) hb); have n6_ := Aside0.mk (Kd.R_lower (Kd.R_new' (Kd.R_new' (Kd.R_new' (Kd.R_new' (Kd.R_new' ho47 (Kd.R_lt (by (with_reducible repeat (first | apply Kd.R_alloc | apply Kd.R_drewN | apply Kd.R_drew)); exact HO193.out))) (Kd.R_lt (by (with_reducible repeat (first | apply Kd.R_alloc | apply Kd.R_drewN | apply Kd.R_drew)); exact HO196.out))) (Kd.R_lt (by (with_reducible repeat (first | apply Kd.R_alloc | apply Kd.R_drewN | apply Kd.R_drew)); exact HO202.out))) (Kd.R_lt (by (with_reducible repeat (first | apply Kd.R_alloc | apply Kd.R_drewN | apply Kd.R_drew)); exact HO205.out))) (Kd.R_lt (by (with_reducible repeat (first | apply Kd.R_alloc | apply Kd.R_drewN | apply Kd.R_drew)); exact HO212.out))) (below_size (by repeat (first | (with_reducible first | exact HB.out | apply below_alloc | apply pw_below_drewN | apply below_drew1) | exact HB.out)))); have n7_ := Aside0.mk (below_step (by repeat (first | (with_reducible first | exact HB.out | apply below_alloc | apply pw_below_drewN | apply below_drew1) | exact HB.out)) hb); clear HO193; clear HO196; clear HO202; clear HO205; clear HO209; clear HO212; clear HB; have HO193 := n0_; have HO196 := n1_; have HO202 := n2_; have HO205 := n3_; have HO209 := n4_; have HO212 := n5_; have HO215 := n6_; have HB := n7_; clear n0_ n1_ n2_ n3_ n4_ n5_ n6_ n7_; (try clear hb); (try clear ho47); obtain ⟨Ao48, co48, eo48⟩ := Kd.R_slice HO212.out; subst eo48; obtain ⟨Ao49, co49, eo49⟩ := Kd.R_slice HO215.out; subst eo49) | ((first | (with_reducible refine gate_callee (f := 15) rfl ?_); refine goesL_ (some 40) rfl rfl Try.func15 (by kernel_rfl) rfl #[.slice Ao48 y210.length co48, .slice Ao49 y213.length co49] rfl (by (try simp only [List.map_toArray, List.map_cons, List.map_nil]); first | done | rfl | (simp only [List.length_drop, List.length_take]; rfl)) ?_ | go_at_call 15); (with_reducible refine (band_Run.calls k _ _ y210 _ _ y213 t216 t217 _ ?side1 ?side2 ?side3 ?side4 A5.out).mono ?_); (case side1 => repeat (first | exact (Kd.R_reads' HO212.out).2.2 | (with_reducible refine Kd.C_alloc ?_ _) | (with_reducible refine Kd.C_drewN ?_ _) | (with_reducible refine Kd.C_drew ?_))); (case side2 => exact (Kd.R_reads' HO212.out).2.1); (case side3 => repeat (first | exact (Kd.R_reads' HO215.out).2.2 | (with_reducible refine Kd.C_alloc ?_ _) | (with_reducible refine Kd.C_drewN ?_ _) | (with_reducible refine Kd.C_drew ?_))); (case side4 => exact (Kd.R_reads' HO215.out).2.1); rintro e w50 ⟨v218, rfl, ho0, hb⟩; (try refine ⟨_, rfl, ?_⟩); have n0_ := Aside0.mk (Kd.R_below (by (with_reducible repeat (first | apply Kd.R_alloc | apply Kd.R_drewN | apply Kd.R_drew)); exact HO193.out) hb); have n1_ := Aside0.mk (Kd.R_below (by (with_reducible repeat (first | apply Kd.R_alloc | apply Kd.R_drewN | apply Kd.R_drew)); exact HO196.out) hb); have n2_ := Aside0.mk (Kd.R_below (by (with_reducible repeat (first | apply Kd.R_alloc | apply Kd.R_drewN | apply Kd.R_drew)); exact HO202.out) hb); have n3_ := Aside0.mk (Kd.R_below (by (with_reducible repeat (first | apply Kd.R_alloc | apply Kd.R_drewN | apply Kd.R_drew)); exact HO205.out) hb); have n4_ := Aside0.mk (Kd.R_elder' (by (with_reducible repeat (first | apply Kd.R_alloc | apply Kd.R_drewN | apply Kd.R_drew)); exact HO209.out) (Kd.R_base ho0) hb); have n5_ := Aside0.mk (Kd.R_below (by (with_reducible repeat (first | apply Kd.R_alloc | apply Kd.R_drewN | apply Kd.R_drew)); exact HO212.out) hb); have n6_ := Aside0.mk (Kd.R_below (by (with_reducible repeat (first | apply Kd.R_alloc | apply Kd.R_drewN | apply Kd.R_drew)); exact HO215.out) hb); have n7_ := Aside0.mk (Kd.R_lower (Kd.R_new' ho0 (Kd.R_lt (by (with_reducible repeat (first | apply Kd.R_alloc | apply Kd.R_drewN | apply Kd.R_drew)); exact HO209.out))) (below_size (by repeat (first | (with_reducible first | exact HB.out | apply below_alloc | apply pw_below_drewN | apply below_drew1) | exact HB.out)))); have n8_ := Aside0.mk (below_step (by repeat (first | (with_reducible first | exact HB.out | apply below_alloc | apply pw_below_drewN | apply below_drew1) | exact HB.out)) hb); clear HO193; clear HO196; clear HO202; clear HO205; clear HO209; clear HO212; clear HO215; clear HB; have HO193 := n0_; have HO196 := n1_; have HO202 := n2_; have HO205 := n3_; have HO209 := n4_; have HO212 := n5_; have HO215 := n6_; have HO219 := n7_; have HB := n8_; clear n0_ n1_ n2_ n3_ n4_ n5_ n6_ n7_ n8_; (try clear hb); (try clear hb2); (try clear hk); (try clear hi); (try clear ho0)) | ((first | (with_reducible refine gate_callee (f := 9) rfl ?_); refine goesL_ (some 43) rfl rfl Try.func9 (by kernel_rfl) rfl #[] rfl (by (try simp only [List.map_toArray, List.map_cons, List.map_nil]); first | done | rfl | (simp only [List.length_drop, List.length_take]; rfl)) ?_ | go_at_call 9); (with_reducible refine (tattinglaw19_awake.calls k  true _ A6.out rfl).mono ?_); rintro e w51 ⟨rfl, hb⟩; (try refine ⟨_, rfl, ?_⟩); have n0_ := Aside0.mk (Kd.R_below (by (with_reducible repeat (first | apply Kd.R_alloc | apply Kd.R_drewN | apply Kd.R_drew)); exact HO193.out) hb); have n1_ := Aside0.mk (Kd.R_below (by (with_reducible repeat (first | apply Kd.R_alloc | apply Kd.R_drewN | apply Kd.R_drew)); exact HO196.out) hb); have n2_ := Aside0.mk (Kd.R_below (by (with_reducible repeat (first | apply Kd.R_alloc | apply Kd.R_drewN | apply Kd.R_drew)); exact HO202.out) hb); have n3_ := Aside0.mk (Kd.R_below (by (with_reducible repeat (first | apply Kd.R_alloc | apply Kd.R_drewN | apply Kd.R_drew)); exact HO205.out) hb); have n4_ := Aside0.mk (Kd.R_below (by (with_reducible repeat (first | apply Kd.R_alloc | apply Kd.R_drewN | apply Kd.R_drew)); exact HO209.out) hb); have n5_ := Aside0.mk (Kd.R_below (by (with_reducible repeat (first | apply Kd.R_alloc | apply Kd.R_drewN | apply Kd.R_drew)); exact HO212.out) hb); have n6_ := Aside0.mk (Kd.R_below (by (with_reducible repeat (first | apply Kd.R_alloc | apply Kd.R_drewN | apply Kd.R_drew)); exact HO215.out) hb); have n7_ := Aside0.mk (Kd.R_below (by (with_reducible repeat (first | apply Kd.R_alloc | apply Kd.R_drewN | apply Kd.R_drew)); exact HO219.out) hb); have n8_ := Aside0.mk (below_step (by repeat (first | (with_reducible first | exact HB.out | apply below_alloc | apply pw_below_drewN | apply below_drew1) | exact HB.out)) hb); clear HO193; clear HO196; clear HO202; clear HO205; clear HO209; clear HO212; clear HO215; clear HO219; clear HB; have HO193 := n0_; have HO196 := n1_; have HO202 := n2_; have HO205 := n3_; have HO209 := n4_; have HO212 := n5_; have HO215 := n6_; have HO219 := n7_; have HB := n8_; clear n0_ n1_ n2_ n3_ n4_ n5_ n6_ n7_ n8_; (try clear hb); (try clear hb2); (try clear hk); (try clear hi); obtain ⟨Ao52, co52, eo52⟩ := Kd.R_slice HO209.out; subst eo52; obtain ⟨Ao53, co53, eo53⟩ := Kd.R_slice HO219.out; subst eo53) | (go_at_call 10; (with_reducible refine (band_Cells.calls k (-1) 2 5 t221 _ A19.out).mono ?_); rintro e w54 ⟨rfl, hb⟩; have n0_ := Aside0.mk (Kd.R_below (by (with_reducible repeat (first | apply Kd.R_alloc | apply Kd.R_drewN | apply Kd.R_drew)); exact HO193.out) hb); have n1_ := Aside0.mk (Kd.R_below (by (with_reducible repeat (first | apply Kd.R_alloc | apply Kd.R_drewN | apply Kd.R_drew)); exact HO196.out) hb); have n2_ := Aside0.mk (Kd.R_below (by (with_reducible repeat (first | apply Kd.R_alloc | apply Kd.R_drewN | apply Kd.R_drew)); exact HO202.out) hb); have n3_ := Aside0.mk (Kd.R_below (by (with_reducible repeat (first | apply Kd.R_alloc | apply Kd.R_drewN | apply Kd.R_drew)); exact HO205.out) hb); have n4_ := Aside0.mk (Kd.R_below (by (with_reducible repeat (first | apply Kd.R_alloc | apply Kd.R_drewN | apply Kd.R_drew)); exact HO209.out) hb); have n5_ := Aside0.mk (Kd.R_below (by (with_reducible repeat (first | apply Kd.R_alloc | apply Kd.R_drewN | apply Kd.R_drew)); exact HO212.out) hb); have n6_ := Aside0.mk (Kd.R_below (by (with_reducible repeat (first | apply Kd.R_alloc | apply Kd.R_drewN | apply Kd.R_drew)); exact HO215.out) hb); have n7_ := Aside0.mk (Kd.R_below (by (with_reducible repeat (first | apply Kd.R_alloc | apply Kd.R_drewN | apply Kd.R_drew)); exact HO219.out) hb); have n8_ := Aside0.mk (below_step (by repeat (first | (with_reducible first | exact HB.out | apply below_alloc | apply pw_below_drewN | apply below_drew1) | exact HB.out)) hb); clear HO193; clear HO196; clear HO202; clear HO205; clear HO209; clear HO212; clear HO215; clear HO219; clear HB; have HO193 := n0_; have HO196 := n1_; have HO202 := n2_; have HO205 := n3_; have HO209 := n4_; have HO212 := n5_; have HO215 := n6_; have HO219 := n7_; have HB := n8_; clear n0_ n1_ n2_ n3_ n4_ n5_ n6_ n7_ n8_; (try clear hb); (try clear hb2); (try clear hk); (try clear hi)) | (go_at_call 10; (with_reducible refine (band_Cells.calls k 2 2 (-1) t222 _ A21.out).mono ?_); rintro e w55 ⟨rfl, hb⟩; have n0_ := Aside0.mk (Kd.R_below (by (with_reducible repeat (first | apply Kd.R_alloc | apply Kd.R_drewN | apply Kd.R_drew)); exact HO193.out) hb); have n1_ := Aside0.mk (Kd.R_below (by (with_reducible repeat (first | apply Kd.R_alloc | apply Kd.R_drewN | apply Kd.R_drew)); exact HO196.out) hb); have n2_ := Aside0.mk (Kd.R_below (by (with_reducible repeat (first | apply Kd.R_alloc | apply Kd.R_drewN | apply Kd.R_drew)); exact HO202.out) hb); have n3_ := Aside0.mk (Kd.R_below (by (with_reducible repeat (first | apply Kd.R_alloc | apply Kd.R_drewN | apply Kd.R_drew)); exact HO205.out) hb); have n4_ := Aside0.mk (Kd.R_below (by (with_reducible repeat (first | apply Kd.R_alloc | apply Kd.R_drewN | apply Kd.R_drew)); exact HO209.out) hb); have n5_ := Aside0.mk (Kd.R_below (by (with_reducible repeat (first | apply Kd.R_alloc | apply Kd.R_drewN | apply Kd.R_drew)); exact HO212.out) hb); have n6_ := Aside0.mk (Kd.R_below (by (with_reducible repeat (first | apply Kd.R_alloc | apply Kd.R_drewN | apply Kd.R_drew)); exact HO215.out) hb); have n7_ := Aside0.mk (Kd.R_below (by (with_reducible repeat (first | apply Kd.R_alloc | apply Kd.R_drewN | apply Kd.R_drew)); exact HO219.out) hb); have n8_ := Aside0.mk (below_step (by repeat (first | (with_reducible first | exact HB.out | apply below_alloc | apply pw_below_drewN | apply below_drew1) | exact HB.out)) hb); clear HO193; clear HO196; clear HO202; clear HO205; clear HO209; clear HO212; clear HO215; clear HO219; clear HB; have HO193 := n0_; have HO196 := n1_; have HO202 := n2_; have HO205 := n3_; have HO209 := n4_; have HO212 := n5_; have HO215 := n6_; have HO219 := n7_; have HB := n8_; clear n0_ n1_ n2_ n3_ n4_ n5_ n6_ n7_ n8_; (try clear hb); (try clear hb2); (try clear hk); (try clear hi)) | (go_at_call 10; (with_reducible refine (band_Cells.calls k 1099511627776 2 1 t223 _ A23.out).mono ?_); rintro e w56 ⟨rfl, hb⟩; have n0_ := Aside0.mk (Kd.R_below (by (with_reducible repeat (first | apply Kd.R_alloc | apply Kd.R_drewN | apply Kd.R_drew)); exact HO193.out) hb); have n1_ := Aside0.mk (Kd.R_below (by (with_reducible repeat (first | apply Kd.R_alloc | apply Kd.R_drewN | apply Kd.R_drew)); exact HO196.out) hb); have n2_ := Aside0.mk (Kd.R_below (by (with_reducible repeat (first | apply Kd.R_alloc | apply Kd.R_drewN | apply Kd.R_drew)); exact HO202.out) hb); have n3_ := Aside0.mk (Kd.R_below (by (with_reducible repeat (first | apply Kd.R_alloc | apply Kd.R_drewN | apply Kd.R_drew)); exact HO205.out) hb); have n4_ := Aside0.mk (Kd.R_below (by (with_reducible repeat (first | apply Kd.R_alloc | apply Kd.R_drewN | apply Kd.R_drew)); exact HO209.out) hb); have n5_ := Aside0.mk (Kd.R_below (by (with_reducible repeat (first | apply Kd.R_alloc | apply Kd.R_drewN | apply Kd.R_drew)); exact HO212.out) hb); have n6_ := Aside0.mk (Kd.R_below (by (with_reducible repeat (first | apply Kd.R_alloc | apply Kd.R_drewN | apply Kd.R_drew)); exact HO215.out) hb); have n7_ := Aside0.mk (Kd.R_below (by (with_reducible repeat (first | apply Kd.R_alloc | apply Kd.R_drewN | apply Kd.R_drew)); exact HO219.out) hb); have n8_ := Aside0.mk (below_step (by repeat (first | (with_reducible first | exact HB.out | apply below_alloc | apply pw_below_drewN | apply below_drew1) | exact HB.out)) hb); clear HO193; clear HO196; clear HO202; clear HO205; clear HO209; clear HO212; clear HO215; clear HO219; clear HB; have HO193 := n0_; have HO196 := n1_; have HO202 := n2_; have HO205 := n3_; have HO209 := n4_; have HO212 := n5_; have HO215 := n6_; have HO219 := n7_; have HB := n8_; clear n0_ n1_ n2_ n3_ n4_ n5_ n6_ n7_ n8_; (try clear hb); (try clear hb2); (try clear hk); (try clear hi)) | (go_at_call 10; (with_reducible refine (band_Cells.calls k 2 4 1 t224 _ A25.out).mono ?_); rintro e w57 ⟨rfl, hb⟩; have n0_ := Aside0.mk (Kd.R_below (by (with_reducible repeat (first | apply Kd.R_alloc | apply Kd.R_drewN | apply Kd.R_drew)); exact HO193.out) hb); have n1_ := Aside0.mk (Kd.R_below (by (with_reducible repeat (first | apply Kd.R_alloc | apply Kd.R_drewN | apply Kd.R_drew)); exact HO196.out) hb); have n2_ := Aside0.mk (Kd.R_below (by (with_reducible repeat (first | apply Kd.R_alloc | apply Kd.R_drewN | apply Kd.R_drew)); exact HO202.out) hb); have n3_ := Aside0.mk (Kd.R_below (by (with_reducible repeat (first | apply Kd.R_alloc | apply Kd.R_drewN | apply Kd.R_drew)); exact HO205.out) hb); have n4_ := Aside0.mk (Kd.R_below (by (with_reducible repeat (first | apply Kd.R_alloc | apply Kd.R_drewN | apply Kd.R_drew)); exact HO209.out) hb); have n5_ := Aside0.mk (Kd.R_below (by (with_reducible repeat (first | apply Kd.R_alloc | apply Kd.R_drewN | apply Kd.R_drew)); exact HO212.out) hb); have n6_ := Aside0.mk (Kd.R_below (by (with_reducible repeat (first | apply Kd.R_alloc | apply Kd.R_drewN | apply Kd.R_drew)); exact HO215.out) hb); have n7_ := Aside0.mk (Kd.R_below (by (with_reducible repeat (first | apply Kd.R_alloc | apply Kd.R_drewN | apply Kd.R_drew)); exact HO219.out) hb); have n8_ := Aside0.mk (below_step (by repeat (first | (with_reducible first | exact HB.out | apply below_alloc | apply pw_below_drewN | apply below_drew1) | exact HB.out)) hb); clear HO193; clear HO196; clear HO202; clear HO205; clear HO209; clear HO212; clear HO215; clear HO219; clear HB; have HO193 := n0_; have HO196 := n1_; have HO202 := n2_; have HO205 := n3_; have HO209 := n4_; have HO212 := n5_; have HO215 := n6_; have HO219 := n7_; have HB := n8_; clear n0_ n1_ n2_ n3_ n4_ n5_ n6_ n7_ n8_; (try clear hb); (try clear hb2); (try clear hk); (try clear hi)) | (go_at_call 10; (with_reducible refine (band_Cells.calls k 0 3 3 t225 _ A27.out).mono ?_); rintro e w58 ⟨rfl, hb⟩; have n0_ := Aside0.mk (Kd.R_below (by (with_reducible repeat (first | apply Kd.R_alloc | apply Kd.R_drewN | apply Kd.R_drew)); exact HO193.out) hb); have n1_ := Aside0.mk (Kd.R_below (by (with_reducible repeat (first | apply Kd.R_alloc | apply Kd.R_drewN | apply Kd.R_drew)); exact HO196.out) hb); have n2_ := Aside0.mk (Kd.R_below (by (with_reducible repeat (first | apply Kd.R_alloc | apply Kd.R_drewN | apply Kd.R_drew)); exact HO202.out) hb); have n3_ := Aside0.mk (Kd.R_below (by (with_reducible repeat (first | apply Kd.R_alloc | apply Kd.R_drewN | apply Kd.R_drew)); exact HO205.out) hb); have n4_ := Aside0.mk (Kd.R_below (by (with_reducible repeat (first | apply Kd.R_alloc | apply Kd.R_drewN | apply Kd.R_drew)); exact HO209.out) hb); have n5_ := Aside0.mk (Kd.R_below (by (with_reducible repeat (first | apply Kd.R_alloc | apply Kd.R_drewN | apply Kd.R_drew)); exact HO212.out) hb); have n6_ := Aside0.mk (Kd.R_below (by (with_reducible repeat (first | apply Kd.R_alloc | apply Kd.R_drewN | apply Kd.R_drew)); exact HO215.out) hb); have n7_ := Aside0.mk (Kd.R_below (by (with_reducible repeat (first | apply Kd.R_alloc | apply Kd.R_drewN | apply Kd.R_drew)); exact HO219.out) hb); have n8_ := Aside0.mk (below_step (by repeat (first | (with_reducible first | exact HB.out | apply below_alloc | apply pw_below_drewN | apply below_drew1) | exact HB.out)) hb); clear HO193; clear HO196; clear HO202; clear HO205; clear HO209; clear HO212; clear HO215; clear HO219; clear HB; have HO193 := n0_; have HO196 := n1_; have HO202 := n2_; have HO205 := n3_; have HO209 := n4_; have HO212 := n5_; have HO215 := n6_; have HO219 := n7_; have HB := n8_; clear n0_ n1_ n2_ n3_ n4_ n5_ n6_ n7_ n8_; (try clear hb); (try clear hb2); (try clear hk); (try clear hi)))
                 go_ret
                 exact ⟨by first | rfl | (simp [errW_none, errW_some] <;> rfl) | (simp [*, errW_none, errW_some] <;> rfl), by repeat (first | (with_reducible first | exact HB.out | apply below_alloc | apply pw_below_drewN | apply below_drew1) | exact HB.out)⟩
                ·rw [if_neg c26] at H
                 have c26b0 : (t224 == 0) = false := beq_eq_false_iff_ne.mpr c26
                 have c26b1 : (t224 != 0) = true := bne_iff_ne.mpr c26
                 exact absurd (Option.some.inj H) (by rw [hr_]; decide)
               ·rw [if_neg c24] at H
                have c24b0 : (t223 == 0) = false := beq_eq_false_iff_ne.mpr c24
                have c24b1 : (t223 != 0) = true := bne_iff_ne.mpr c24
                exact absurd (Option.some.inj H) (by rw [hr_]; decide)
              ·rw [if_neg c22] at H
               have c22b0 : (t222 == 0) = false := beq_eq_false_iff_ne.mpr c22
               have c22b1 : (t222 != 0) = true := bne_iff_ne.mpr c22
               exact absurd (Option.some.inj H) (by rw [hr_]; decide)
             ·rw [if_neg c20] at H
              have c20b0 : (t221 == 0) = false := beq_eq_false_iff_ne.mpr c20
              have c20b1 : (t221 != 0) = true := bne_iff_ne.mpr c20
              exact absurd (Option.some.inj H) (by rw [hr_]; decide)
            ·rw [if_neg c18] at H
             have c18b0 : (t217 == 2) = false := beq_eq_false_iff_ne.mpr c18
             have c18b1 : (t217 != 2) = true := bne_iff_ne.mpr c18
             exact absurd (Option.some.inj H) (by rw [hr_]; decide)
           ·rw [if_neg c17] at H
            have c17b0 : ((t216.length : Int) == 1) = false := beq_eq_false_iff_ne.mpr c17
            have c17b1 : ((t216.length : Int) != 1) = true := bne_iff_ne.mpr c17
            exact absurd (Option.some.inj H) (by rw [hr_]; decide)
          ·rw [if_neg c16] at H
           have c16b0 : (t207 == 13) = false := beq_eq_false_iff_ne.mpr c16
           have c16b1 : (t207 != 13) = true := bne_iff_ne.mpr c16
           exact absurd (Option.some.inj H) (by rw [hr_]; decide)
         ·rw [if_neg c15] at H
          have c15b0 : ((t206.length : Int) == 1) = false := beq_eq_false_iff_ne.mpr c15
          have c15b1 : ((t206.length : Int) != 1) = true := bne_iff_ne.mpr c15
          exact absurd (Option.some.inj H) (by rw [hr_]; decide)
        ·rw [if_neg c14] at H
         have c14b0 : (t198 == 6) = false := beq_eq_false_iff_ne.mpr c14
         have c14b1 : (t198 != 6) = true := bne_iff_ne.mpr c14
         exact absurd (Option.some.inj H) (by rw [hr_]; decide)
       ·rw [if_neg c13] at H
        have c13b0 : (t197 == 1) = false := beq_eq_false_iff_ne.mpr c13
        have c13b1 : (t197 != 1) = true := bne_iff_ne.mpr c13
        exact absurd (Option.some.inj H) (by rw [hr_]; decide)
      ·rw [if_neg c12] at H
       have c12b0 : (t199 == 0) = false := beq_eq_false_iff_ne.mpr c12
       have c12b1 : (t199 != 0) = true := bne_iff_ne.mpr c12
       exact absurd (Option.some.inj H) (by rw [hr_]; decide)
     ·rw [if_neg c11] at H
      have c11b0 : (t189 == 1) = false := beq_eq_false_iff_ne.mpr c11
      have c11b1 : (t189 != 1) = true := bne_iff_ne.mpr c11
      exact absurd (Option.some.inj H) (by rw [hr_]; decide)
    ·rw [if_neg c10] at H
     have c10b0 : (t188 == 0) = false := beq_eq_false_iff_ne.mpr c10
     have c10b1 : (t188 != 0) = true := bne_iff_ne.mpr c10
     exact absurd (Option.some.inj H) (by rw [hr_]; decide)
   ·rw [if_neg c9] at H
    have c9b0 : (t190 == 0) = false := beq_eq_false_iff_ne.mpr c9
    have c9b1 : (t190 != 0) = true := bne_iff_ne.mpr c9
    exact absurd (Option.some.inj H) (by rw [hr_]; decide)
  ·rw [if_neg c8] at H
   have c8b0 : (t187 == 1) = false := beq_eq_false_iff_ne.mpr c8
   have c8b1 : (t187 != 1) = true := bne_iff_ne.mpr c8
   exact absurd (Option.some.inj H) (by rw [hr_]; decide)
 ·replace c7 := Bool.eq_false_iff.mpr c7
  subst c7
  have H1 : (some false) = some r := by rw [if_neg (show ¬ (false = true) by decide)] at H; exact H
  clear H
  have H := H1
  clear H1
  exact absurd (Option.some.inj H) (by rw [hr_]; decide)

/-- THE ONE PURE STATEMENT of tattinglaw19_BandKnown: yours. -/
def tattinglaw19_BandKnown.Pure : Prop := ∃ k, tattinglaw19_BandKnown.f k  = some true
theorem tattinglaw19_BandKnown.walk (P : tattinglaw19_BandKnown.Pure)  (w : World)  :
  Calls Try.prog 7 #[] w fun e w' => e = .returned (.bool true) ∧ Below w.heap.size w w' := by
 obtain ⟨k, h⟩ := P  
 refine (tattinglaw19_BandKnown.calls k  true w h rfl).mono ?_
 rintro e w' ⟨rfl, hd⟩
 exact ⟨rfl, hd⟩

end Go.Proofs.Ytcjngbpmdmfbdaa.PBandKnown
