/- What the given program's functions come to, each a Lean function and the walk that shows it: no condition beside those that each theorem names. -/
import Derived.Test.YtlodaoijokfblaaPPatchKnownx0
import Derived.Test.YtlodaoijokfblaaPPatchKnownx1
import Derived.Test.YtlodaoijokfblaaPPatchKnownx2
namespace Go.Proofs.Ytlodaoijokfblaa.PPatchKnown
open Go.RowKit Go.Proofs.YtlodaoijokfblaaW.PrintWords Go.Proofs.YtlodaoijokfblaaW.PrintLast Go.Proofs.YtlodaoijokfblaaW.PrintMore
attribute [local go_sem] max2_int min2_int max_two min_two max_three min_three max_four min_four   -- for this text's walks alone
set_option linter.unusedVariables false
set_option linter.unusedSimpArgs false

/-! ### patch_Apply: function 9, by hand -/
def patch_Apply.l0 : List S28 → List (List Int) → Nat → List (List Int) → Option (List (List Int) × Int)
 | [], a, i, b => if i ≤ a.length then (patch_more.f b (a.drop i)).bind fun r => some (r, 0) else none
 | h :: s, a, i, b => (patch_stands.f a h.f1 h.f0).bind fun st => if st = true then (if i ≤ h.f0.toNat then (patch_more.f b ((a.take h.f0.toNat).drop i)).bind fun b1 => (patch_more.f b1 h.f2).bind fun b2 => patch_Apply.l0 s a (h.f0.toNat + h.f1.length) b2 else none) else some ([], 5)
def patch_Apply.f (k : Nat) (s : List S28) (a : List (List Int)) : Option (List (List Int) × Int) := (edit_Good.f k s).bind fun g => if g = true then patch_Apply.l0 s a 0 [] else some ([], 1)
theorem patch_Apply.mono : ∀ a0 a1 k, LeO (patch_Apply.f k a0 a1) (patch_Apply.f (k + 1) a0 a1) := fun _ _ _ => LeO.bind (edit_Good.mono _ _) fun _ => LeO.refl _
theorem patch_stands_room {a o : List (List Int)} {x : Int} (h : patch_stands.f a o x = some true) : 0 ≤ x ∧ x.toNat + o.length ≤ a.length := by
 unfold patch_stands.f at h
 by_cases h0 : 0 ≤ x
 ·rw [if_pos h0] at h
  by_cases h1 : x ≤ (a.length : Int)
  ·rw [if_pos h1] at h
   by_cases h2 : (o.length : Int) ≤ (a.length : Int) - x
   ·omega
   ·rw [if_neg h2] at h; cases h
  ·rw [if_neg h1] at h; cases h
 ·rw [if_neg h0] at h; cases h
set_option maxHeartbeats 8000000 in
set_option maxRecDepth 100000 in
theorem patch_Apply.calls (k : Nat) (A0 : Option Addr) (c0 : Nat) (l0 : List S28) (A1 : Option Addr) (c1 : Nat) (l1 : List (List Int)) (r1 : List (List Int)) (r2 : Int) (w : World) (hr0 : Kd.C k28 w A0 l0.length l0) (hc0 : l0.length ≤ c0) (hr1 : Kd.C (Kd.slice 5 (Kd.int .u8)) w A1 l1.length l1) (hc1 : l1.length ≤ c1) (h : patch_Apply.f k l0 l1 = some (r1, r2)) :
  Calls Try.prog 9 #[.slice A0 l0.length c0, .slice A1 l1.length c1] w fun e w' => ∃ v0_ : Value, e = .returned (.tuple #[v0_, .int .i64 r2]) ∧ Kd.N (Kd.slice 5 (Kd.int .u8)) 22 w' w.heap.size (fun k_ => w.heap.size ≤ k_) v0_ r1 ∧ Below w.heap.size w w' := by
 have HR0 := Aside0.mk hr0
 have HR1 := Aside0.mk hr1
 have HC0 := Aside0.mk hc0
 have HC1 := Aside0.mk hc1
 have hm0 := Kd.C_max hr0
 have hm1 := Kd.C_max hr1
 have HB := Aside0.mk (Below.refl w.heap.size w)
 clear hr0 hc0 hr1 hc1
 have hu28 := Try.underlying28
 unfold patch_Apply.f at h
 rw [Option.bind_eq_some_iff] at h
 obtain ⟨g, hg, h⟩ := h
 have AG := Aside0.mk hg
 clear hg
 cases g with
 | false =>
  rw [if_neg (by decide)] at h
  simp only [Option.some.injEq, Prod.mk.injEq] at h
  obtain ⟨rfl, rfl⟩ := h
  go_enter Try.func9, Try.ntmps9
  go_wp2_with (go_at_call 23; (with_reducible refine (edit_Good.calls k _ _ l0 false _ HR0.out HC0.out AG.out).mono ?_); rintro e w1 ⟨rfl, hb⟩; have n0_ := Aside0.mk (below_step HB.out hb); clear HB hb; have HB := n0_; clear n0_)
  go_ret2
  exact ⟨_, rfl, Kd.N_nil _ _ _ _ _, HB.out⟩
 | true =>
  rw [if_pos rfl] at h
  have H := Aside0.mk h
  clear h
  go_enter Try.func9, Try.ntmps9
  go_wp2_with (go_at_call 23; (with_reducible refine (edit_Good.calls k _ _ l0 true _ HR0.out HC0.out AG.out).mono ?_); rintro e w1 ⟨rfl, hb⟩; have n0_ := Aside0.mk (below_step HB.out hb); clear HB hb; have HB := n0_; clear n0_)
  go_loopw [6, 7, 15] (fun s6 s7 ix wr => ∃ (j i : Nat) (b : List (List Int)) (vb : Value), j ≤ l0.length ∧ ix = .int .i64 j ∧ s7 = .int .i64 i ∧ vb = s6 ∧ Aside0 (patch_Apply.l0 (l0.drop j) l1 i b = some (r1, r2)) ∧ Aside0 (Kd.R (Kd.slice 5 (Kd.int .u8)) 22 wr w.heap.size (fun _ => True) vb b) ∧ Aside0 (Below w.heap.size w wr)) (fun _ _ ix _ => l0.length - (intOf ix).toNat)
  case atStart => exact ⟨0, 0, [], _, Nat.zero_le _, rfl, rfl, rfl, H, ⟨Kd.R_nil _ _ _ _ _⟩, HB⟩
  case round =>
   clear H HB
   obtain ⟨j, i, b, vb, hj, rfl, rfl, rfl, H, HO, HB⟩ := hrel
   by_cases hjl : j < l0.length
   ·obtain ⟨ad, B1, d1, B2, d2, rfl, hx0, hx1, hx2, hl1, hi1, hl2, hi2⟩ := at_T28 HR0.out (j : Int) (by omega) (by omega)
    simp only [Int.toNat_natCast] at hx0 hx1 hx2
    have e0 : rd_T28 l0 (j : Int) = l0.getD j z28 := rfl
    have h := H.out
    rw [drop_at28 hjl, ← e0] at h
    generalize rd_T28 l0 (j : Int) = x at hx0 hx1 hx2 hl1 hi1 hl2 hi2 h
    have hx0 := pw_cell_below HB.out hx0
    have hx1 := pw_cell_below HB.out hx1
    have hx2 := pw_cell_below HB.out hx2
    have HI1 := Aside0.mk hi1
    have HI2 := Aside0.mk hi2
    have HL1 := Aside0.mk hl1
    have HL2 := Aside0.mk hl2
    have AH := Aside0.mk h
    clear hi1 hi2 hl1 hl2 h H e0
    go_upto_region 8 with (first
     | ((with_reducible refine gate_dst (N := 9) rfl ?_); refine box_event ?hg (N := 9) ?hd (cs := #[.int .i64 0, .slice none 0 0, .slice none 0 0]) (t := 28) ?hr ?_; (case hd => rfl); (case hg => rfl); (case hr => first | (go_simp; done) | (go_simp; rfl)); intro gb hg w8 hbox hb; have n0_ := Aside0.mk (below_step HB.out hb); have BK := Aside0.mk hbox; have n1_ := Aside0.mk (Kd.R_below HO.out hb); have HBG := Aside0.mk (show w.heap.size ≤ gb by rw [hg]; exact HB.out.size); clear HB HO hb hbox hg; have HB := n0_; have HO := n1_; clear n0_ n1_; have hcz0 := (blk_cell BK.out 0).trans rfl; have hcz1 := (blk_cell BK.out 1).trans rfl; have hcz2 := (blk_cell BK.out 2).trans rfl; have hfz0 := blk_frozen BK.out 0; have hfz1 := blk_frozen BK.out 1; have hfz2 := blk_frozen BK.out 2))
    have hO1 := Kd.R_types HO.out BK.out (by decide)
    have HNE := Aside0.mk (Kd.R_ne HO.out BK.out (by decide))
    have hO2 := Kd.R_far (p := ⟨gb, 0, none⟩) hO1 (fun _ hk => hk.2) (.int .i64 x.f0)
    have hO3 := Kd.R_far (p := ⟨gb, 1, none⟩) hO2 (fun _ hk => hk.2) (.slice B1 x.f1.length d1)
    have hO4 := Kd.R_far (p := ⟨gb, 2, none⟩) hO3 (fun _ hk => hk.2) (.slice B2 x.f2.length d2)
    have n0_ := Aside0.mk (Kd.R_mono hO4 (fun _ _ => trivial) (ok' := fun _ => True))
    have n1_ := Aside0.mk (blk_put (cs' := #[.int .i64 x.f0, .slice B1 x.f1.length d1, .slice B2 x.f2.length d2]) (blk_put (cs' := #[.int .i64 x.f0, .slice B1 x.f1.length d1, .slice none 0 0]) (blk_put (cs' := #[.int .i64 x.f0, .slice none 0 0, .slice none 0 0]) BK.out 0 (.int .i64 x.f0) rfl) 1 (.slice B1 x.f1.length d1) rfl) 2 (.slice B2 x.f2.length d2) rfl)
    have n2_ := Aside0.mk (below_set (j := 2) (v := .slice B2 x.f2.length d2) (below_set (j := 1) (v := .slice B1 x.f1.length d1) (below_set (j := 0) (v := .int .i64 x.f0) HB.out HBG.out) HBG.out) HBG.out)
    clear HO BK HB hO1 hO2 hO3 hO4 hcz0 hcz1 hcz2 hfz0 hfz1 hfz2
    have HO := n0_
    have BK := n1_
    have HB := n2_
    clear n0_ n1_ n2_
    generalize ((w8.setCell ⟨gb, 0, none⟩ (.int .i64 x.f0)).setCell ⟨gb, 1, none⟩ (.slice B1 x.f1.length d1)).setCell ⟨gb, 2, none⟩ (.slice B2 x.f2.length d2) = wx at HO BK HB ⊢
    have hcz0 : wx.cell? ⟨gb, 0, none⟩ = some (.int .i64 x.f0) := (blk_cell BK.out 0).trans rfl
    have hcz1 : wx.cell? ⟨gb, 1, none⟩ = some (.slice B1 x.f1.length d1) := (blk_cell BK.out 1).trans rfl
    have h := AH.out
    rw [patch_Apply.l0, Option.bind_eq_some_iff] at h
    obtain ⟨st, hst, h⟩ := h
    have AST := Aside0.mk hst
    clear hst AH
    cases st with
    | false =>
     rw [if_neg (by decide)] at h
     simp only [Option.some.injEq, Prod.mk.injEq] at h
     obtain ⟨rfl, rfl⟩ := h
     go_wp2_with (first
      | (go_at_call 24; go_loud ((with_reducible refine (patch_stands.calls _ _ l1 _ _ x.f1 x.f0 false _ (Kd.C_below HR1.out HB.out) HC1.out (Kd.C_below HI1.out HB.out) HL1.out AST.out).mono ?_); rintro e w3 ⟨rfl, hb⟩; obtain ⟨n3, rfl⟩ := hb.out; clear hb)))
     go_ret2
     exact ⟨_, rfl, Kd.N_nil _ _ _ _ _, drewN_below HB.out _⟩
    | true =>
     rw [if_pos rfl] at h
     by_cases hib : i ≤ x.f0.toNat
     ·rw [if_pos hib, Option.bind_eq_some_iff] at h
      obtain ⟨b1, hb1, h⟩ := h
      rw [Option.bind_eq_some_iff] at h
      obtain ⟨b2, hb2, h⟩ := h
      obtain ⟨hp0, hp1⟩ := patch_stands_room AST.out
      have AB1 := Aside0.mk hb1
      have AB2 := Aside0.mk hb2
      have AH := Aside0.mk h
      clear hb1 hb2 h
      go_upto_region 10 with (first
       | (go_at_call 24; go_loud ((with_reducible refine (patch_stands.calls _ _ l1 _ _ x.f1 x.f0 true _ (Kd.C_below HR1.out HB.out) HC1.out (Kd.C_below HI1.out HB.out) HL1.out AST.out).mono ?_); rintro e w3 ⟨rfl, hb⟩; obtain ⟨n3, rfl⟩ := hb.out; clear hb)))
      have n0_ := Aside0.mk (below_drew (drewN_below HB.out n3))
      have n1_ := Aside0.mk (Kd.R_below HO.out (below_drew (drewN_below (Below.refl wx.heap.size wx) n3)))
      have n2_ := Aside0.mk (show (wx.drewN n3).drew.heap[gb]? = _ from BK.out)
      clear HB HO BK hcz0 hcz1
      have HB := n0_
      have HO := n1_
      have BK := n2_
      clear n0_ n1_ n2_
      generalize wx.drewN n3 = wy at HB HO BK ⊢
      have hcz0 : wy.drew.cell? ⟨gb, 0, none⟩ = some (.int .i64 x.f0) := (blk_cell BK.out 0).trans rfl
      have hcz2 : wy.drew.cell? ⟨gb, 2, none⟩ = some (.slice B2 x.f2.length d2) := (blk_cell BK.out 2).trans rfl
      obtain ⟨A3, hcutr, hc3, hr3⟩ := cut_row (A := A1) HC1.out (lo := i) (hi := x.f0.toNat) hib (by omega)
      have HR3 := Aside0.mk (hr3 w HR1.out)
      have HC3 := Aside0.mk hc3
      rw [Int.toNat_of_nonneg hp0] at hcutr
      clear hr3 hc3
      generalize (l1.take x.f0.toNat).drop i = T at hcutr HR3 HC3 AB1
      go_cut [6] (fun s6 wr => ∃ vb', s6 = vb' ∧ Aside0 (Kd.R (Kd.slice 5 (Kd.int .u8)) 22 wr w.heap.size (fun _ => True) vb' b2) ∧ Aside0 (Below w.heap.size w wr) ∧ Aside0 (wr.heap[gb]? = some (.cells #[.int .i64 x.f0, .slice B1 x.f1.length d1, .slice B2 x.f2.length d2] 28 (0, 0))))
      case first =>
       go_region_held3 (fun w' => w'.cell? ⟨gb, 0, none⟩ = some (.int .i64 x.f0) ∧ w'.cell? ⟨gb, 2, none⟩ = some (.slice B2 x.f2.length d2)) (first | go_keep | exact ⟨(blk_cell BK1.out 0).trans rfl, (blk_cell BK1.out 2).trans rfl⟩ | exact ⟨(blk_cell BK2.out 0).trans rfl, (blk_cell BK2.out 2).trans rfl⟩) (first
        | (go_at_call 25; ((with_reducible refine (patch_more.calls w vb b _ _ _ b1 _ HB.out HO.out HR3.out HC3.out AB1.out).mono ?_); rintro e w4 ⟨v1, rfl, ho, hb, hk, hat⟩; have BK1 := Aside0.mk (blk_kept BK.out hk HNE.out); have HB1 := Aside0.mk hb; have HO1 := Aside0.mk ho; have HNE1 := Aside0.mk (Kd.R_ne ho BK1.out (by decide)); (try clear ho); (try clear hb); (try clear hk); (try clear hat)))
        | (go_at_call 25; ((with_reducible refine (patch_more.calls w v1 b1 _ _ x.f2 b2 _ HB1.out HO1.out HI2.out HL2.out AB2.out).mono ?_); rintro e w5 ⟨v2, rfl, ho, hb, hk, hat⟩; have BK2 := Aside0.mk (blk_kept BK1.out hk HNE1.out); have HB2 := Aside0.mk hb; have HO2 := Aside0.mk ho; (try clear ho); (try clear hb); (try clear hk); (try clear hat))))
       go_wp2_with fail
       go_meet
       exact ⟨_, rfl, HO2, HB2, BK2⟩
      case rest =>
       clear HB HO BK HNE
       obtain ⟨vb', rfl, HO, HB, BK⟩ := hcut
       have hcz0 : wc.cell? ⟨gb, 0, none⟩ = some (.int .i64 x.f0) := (blk_cell BK.out 0).trans rfl
       have hcz1 : wc.cell? ⟨gb, 1, none⟩ = some (.slice B1 x.f1.length d1) := (blk_cell BK.out 1).trans rfl
       go_wp2
       go_roundw
       case rel => exact ⟨j + 1, x.f0.toNat + x.f1.length, b2, _, by omega, by go_num, by congr 1; omega, rfl, AH, HO, HB⟩
       case measure => simp [intOf]; omega
     ·rw [if_neg hib] at h; cases h
   ·obtain rfl : j = l0.length := by omega
    have h := H.out
    rw [List.drop_length, patch_Apply.l0] at h
    by_cases hil : i ≤ l1.length
    ·rw [if_pos hil, Option.bind_eq_some_iff] at h
     obtain ⟨r0, hr0, h⟩ := h
     simp only [Option.some.injEq, Prod.mk.injEq] at h
     obtain ⟨rfl, rfl⟩ := h
     have AR := Aside0.mk hr0
     clear hr0 H
     obtain ⟨A3, hcutr, hc3, hr3⟩ := cut_end (A := A1) HC1.out (lo := i) hil
     have HR3 := Aside0.mk (hr3 w HR1.out)
     have HC3 := Aside0.mk hc3
     clear hr3 hc3
     generalize l1.drop i = T at hcutr HR3 HC3 AR
     go_wp2_with (first
      | (go_at_call 25; go_loud ((with_reducible refine (patch_more.calls w vb b _ _ T r0 _ HB.out HO.out HR3.out HC3.out AR.out).mono ?_); rintro e w4 ⟨v1, rfl, ho, hb, -, -⟩)))
     go_ret2
     exact ⟨_, rfl, Kd.R_N (Kd.R_mono (Kd.R_bound ho) (fun _ hk => hk.2.1)), hb⟩
    ·rw [if_neg hil] at h; cases h

/-! ### patch_Invert: function 10, by hand -/
theorem info28_ : (Try.prog.info? 28).map (fun i => (i.zero, i.size, i.bytes)) = some (some (.agg #[(.int .i64 0), (.slice none 0 0), (.slice none 0 0)]), 3, 56) := by kernel_rfl
def small60 (x : Int) : Bool := decide (-1152921504606846976 ≤ x ∧ x ≤ 1152921504606846976)
def patch_Invert.l0 : List S28 → List S28 → Int → Option (List S28 × Int)
 | [], t, _ => some (t, 0)
 | h :: s, t, sh => if small60 h.f0 = true ∧ small60 sh = true then (if h.f0 + sh > 1048576 then some ([], 2) else if t.length < 100000000 then ((patch_more.f [] h.f2).bind fun n => (patch_more.f [] h.f1).bind fun o => patch_Invert.l0 s (t ++ [⟨h.f0 + sh, n, o⟩]) (sh + ((h.f2.length : Int) - (h.f1.length : Int)))) else none) else none
def patch_Invert.f (k : Nat) (s : List S28) : Option (List S28 × Int) := (edit_Good.f k s).bind fun g => if g = true then patch_Invert.l0 s [] 0 else some ([], 1)
theorem patch_Invert.mono : ∀ a0 k, LeO (patch_Invert.f k a0) (patch_Invert.f (k + 1) a0) := fun _ _ => LeO.bind (edit_Good.mono _ _) fun _ => LeO.refl _
theorem patch_more_short {l0 l1 r : List (List Int)} (h : patch_more.f l0 l1 = some r) : l1.length < 100000000 := by
 unfold patch_more.f at h
 by_cases hlen : l0.length + l1.length < 100000000
 ·omega
 ·rw [if_neg hlen] at h; cases h
set_option maxHeartbeats 8000000 in
set_option maxRecDepth 100000 in
theorem patch_Invert.calls (k : Nat) (A0 : Option Addr) (c0 : Nat) (l0 : List S28) (r1 : List S28) (r2 : Int) (w : World) (hr0 : Kd.C k28 w A0 l0.length l0) (hc0 : l0.length ≤ c0) (h : patch_Invert.f k l0 = some (r1, r2)) :
  Calls Try.prog 10 #[.slice A0 l0.length c0] w fun e w' => ∃ v0_ : Value, e = .returned (.tuple #[v0_, .int .i64 r2]) ∧ Kd.N k28 28 w' w.heap.size (fun k_ => w.heap.size ≤ k_) v0_ r1 ∧ Below w.heap.size w w' := by
 have HR0 := Aside0.mk hr0
 have HC0 := Aside0.mk hc0
 have hm0 := Kd.C_max hr0
 have HB := Aside0.mk (Below.refl w.heap.size w)
 clear hr0 hc0
 have hu28 := Try.underlying28
 unfold patch_Invert.f at h
 rw [Option.bind_eq_some_iff] at h
 obtain ⟨g, hg, h⟩ := h
 have AG := Aside0.mk hg
 clear hg
 cases g with
 | false =>
  rw [if_neg (by decide)] at h
  simp only [Option.some.injEq, Prod.mk.injEq] at h
  obtain ⟨rfl, rfl⟩ := h
  go_enter Try.func10, Try.ntmps10
  go_wp2_with (go_at_call 23; (with_reducible refine (edit_Good.calls k _ _ l0 false _ HR0.out HC0.out AG.out).mono ?_); rintro e w1 ⟨rfl, hb⟩; have n0_ := Aside0.mk (below_step HB.out hb); clear HB hb; have HB := n0_; clear n0_)
  go_ret2
  exact ⟨_, rfl, Kd.N_nil _ _ _ _ _, HB.out⟩
 | true =>
  rw [if_pos rfl] at h
  have H := Aside0.mk h
  clear h
  go_enter Try.func10, Try.ntmps10
  go_wp2_with (go_at_call 23; (with_reducible refine (edit_Good.calls k _ _ l0 true _ HR0.out HC0.out AG.out).mono ?_); rintro e w1 ⟨rfl, hb⟩; have n0_ := Aside0.mk (below_step HB.out hb); clear HB hb; have HB := n0_; clear n0_)
  go_loopw [4, 5, 14] (fun s4 s5 ix wr => ∃ (j : Nat) (sh : Int) (t : List S28) (vt : Value), j ≤ l0.length ∧ ix = .int .i64 j ∧ s5 = .int .i64 sh ∧ vt = s4 ∧ Aside0 (patch_Invert.l0 (l0.drop j) t sh = some (r1, r2)) ∧ Aside0 (Kd.R k28 28 wr w.heap.size (fun k_ => w.heap.size ≤ k_) vt t) ∧ Aside0 (Below w.heap.size w wr)) (fun _ _ ix _ => l0.length - (intOf ix).toNat)
  case atStart => exact ⟨0, 0, [], _, Nat.zero_le _, rfl, rfl, rfl, H, ⟨Kd.R_nil _ _ _ _ _⟩, HB⟩
  case round =>
   clear H HB
   obtain ⟨j, sh, t, vt, hj, rfl, rfl, rfl, H, HN, HB⟩ := hrel
   by_cases hjl : j < l0.length
   ·obtain ⟨ad, B1, d1, B2, d2, rfl, hx0, hx1, hx2, hl1, hi1, hl2, hi2⟩ := at_T28 HR0.out (j : Int) (by omega) (by omega)
    simp only [Int.toNat_natCast] at hx0 hx1 hx2
    have e0 : rd_T28 l0 (j : Int) = l0.getD j z28 := rfl
    have h := H.out
    rw [drop_at28 hjl, ← e0] at h
    generalize rd_T28 l0 (j : Int) = x at hx0 hx1 hx2 hl1 hi1 hl2 hi2 h
    rw [patch_Invert.l0] at h
    by_cases hsm : small60 x.f0 = true ∧ small60 sh = true
    ·rw [if_pos hsm] at h
     obtain ⟨hs1, hs2⟩ := hsm
     have hs1 := of_decide_eq_true hs1
     have hs2 := of_decide_eq_true hs2
     obtain ⟨hs3, hs4⟩ := hs1
     obtain ⟨hs5, hs6⟩ := hs2
     have hx0 := pw_cell_below HB.out hx0
     have hx1 := pw_cell_below HB.out hx1
     have hx2 := pw_cell_below HB.out hx2
     have HI1 := Aside0.mk hi1
     have HI2 := Aside0.mk hi2
     have HL1 := Aside0.mk hl1
     have HL2 := Aside0.mk hl2
     clear hi1 hi2 hl1 hl2 H e0
     have AH := Aside0.mk h
     clear h
     go_upto_region 8 with (first
      | ((with_reducible refine gate_dst (N := 7) rfl ?_); refine box_event ?hg (N := 7) ?hd (cs := #[.int .i64 0, .slice none 0 0, .slice none 0 0]) (t := 28) ?hr ?_; (case hd => rfl); (case hg => rfl); (case hr => first | (go_simp; done) | (go_simp; rfl)); intro gb hg w8 hbox hb; have n0_ := Aside0.mk (below_step HB.out hb); have BK := Aside0.mk hbox; have n1_ := Aside0.mk (Kd.R_mono (ok' := fun k_ => w.heap.size ≤ k_ ∧ k_ ≠ gb) (Kd.R_below (Kd.R_bound HN.out) hb) (fun k_ hk => ⟨hk.2.1, by have := hk.2.2.1; omega⟩)); have HBG := Aside0.mk (show w.heap.size ≤ gb by rw [hg]; exact HB.out.size); clear HB HN hb hbox hg; have HB := n0_; have HN := n1_; clear n0_ n1_; have hcz0 := (blk_cell BK.out 0).trans rfl; have hcz1 := (blk_cell BK.out 1).trans rfl; have hcz2 := (blk_cell BK.out 2).trans rfl; have hfz0 := blk_frozen BK.out 0; have hfz1 := blk_frozen BK.out 1; have hfz2 := blk_frozen BK.out 2))
     have hO2 := Kd.R_far (p := ⟨gb, 0, none⟩) HN.out (fun _ hk => hk.2) (.int .i64 x.f0)
     have hO3 := Kd.R_far (p := ⟨gb, 1, none⟩) hO2 (fun _ hk => hk.2) (.slice B1 x.f1.length d1)
     have n0_ := Aside0.mk (Kd.R_far (p := ⟨gb, 2, none⟩) hO3 (fun _ hk => hk.2) (.slice B2 x.f2.length d2))
     have n1_ := Aside0.mk (blk_put (cs' := #[.int .i64 x.f0, .slice B1 x.f1.length d1, .slice B2 x.f2.length d2]) (blk_put (cs' := #[.int .i64 x.f0, .slice B1 x.f1.length d1, .slice none 0 0]) (blk_put (cs' := #[.int .i64 x.f0, .slice none 0 0, .slice none 0 0]) BK.out 0 (.int .i64 x.f0) rfl) 1 (.slice B1 x.f1.length d1) rfl) 2 (.slice B2 x.f2.length d2) rfl)
     have n2_ := Aside0.mk (below_set (j := 2) (v := .slice B2 x.f2.length d2) (below_set (j := 1) (v := .slice B1 x.f1.length d1) (below_set (j := 0) (v := .int .i64 x.f0) HB.out HBG.out) HBG.out) HBG.out)
     clear HN BK HB hO2 hO3 hcz0 hcz1 hcz2 hfz0 hfz1 hfz2
     have HN := n0_
     have BK := n1_
     have HB := n2_
     clear n0_ n1_ n2_
     generalize ((w8.setCell ⟨gb, 0, none⟩ (.int .i64 x.f0)).setCell ⟨gb, 1, none⟩ (.slice B1 x.f1.length d1)).setCell ⟨gb, 2, none⟩ (.slice B2 x.f2.length d2) = wx at HN BK HB ⊢
     have hcz0 : wx.cell? ⟨gb, 0, none⟩ = some (.int .i64 x.f0) := (blk_cell BK.out 0).trans rfl
     have hcz1 : wx.cell? ⟨gb, 1, none⟩ = some (.slice B1 x.f1.length d1) := (blk_cell BK.out 1).trans rfl
     have h := AH.out
     by_cases hbig : x.f0 + sh > 1048576
     ·rw [if_pos hbig] at h
      simp only [Option.some.injEq, Prod.mk.injEq] at h
      obtain ⟨rfl, rfl⟩ := h
      go_wp2
      go_ret2
      exact ⟨_, rfl, Kd.N_nil _ _ _ _ _, HB.out⟩
     ·rw [if_neg hbig] at h
      by_cases htl : t.length < 100000000
      ·rw [if_pos htl, Option.bind_eq_some_iff] at h
       obtain ⟨n, hn, h⟩ := h
       rw [Option.bind_eq_some_iff] at h
       obtain ⟨o, ho, h⟩ := h
       have hn1 := patch_more_short hn
       have ho1 := patch_more_short ho
       have AN := Aside0.mk hn
       have AO := Aside0.mk ho
       have AH := Aside0.mk h
       have HTL := Aside0.mk htl
       clear hn ho h htl
       go_upto_region 11 with fail
       have n0_ := Aside0.mk (below_drew HB.out)
       have n1_ := Aside0.mk (Kd.R_below HN.out (below_drew (Below.refl wx.heap.size wx)))
       have n2_ := Aside0.mk (show wx.drew.heap[gb]? = _ from BK.out)
       clear HB HN BK hcz0 hcz1
       have HB := n0_
       have HN := n1_
       have BK := n2_
       clear n0_ n1_ n2_
       have hcz1 : wx.drew.cell? ⟨gb, 1, none⟩ = some (.slice B1 x.f1.length d1) := (blk_cell BK.out 1).trans rfl
       have hcz2 : wx.drew.cell? ⟨gb, 2, none⟩ = some (.slice B2 x.f2.length d2) := (blk_cell BK.out 2).trans rfl
       have HGN := Aside0.mk (show ¬ (vt : Value).ownBlock = some gb from fun e_ => (HN.out.1 gb e_).2 rfl)
       have HNW := Aside0.mk (show ∀ k_, wx.drew.heap.size ≤ k_ → ((w.heap.size ≤ k_ ∧ k_ ≠ gb) ∧ some k_ ≠ (vt : Value).ownBlock) from fun k_ hk => ⟨⟨Nat.le_trans HB.out.size hk, fun e_ => by have := blk_lt BK.out; omega⟩, fun e_ => by have := Kd.R_lt HN.out k_ e_.symm; omega⟩)
       go_cut [4] (fun s4 wr => ∃ vt', s4 = vt' ∧ Aside0 (Kd.R k28 28 wr w.heap.size (fun k_ => w.heap.size ≤ k_) vt' (t ++ [⟨x.f0 + sh, n, o⟩])) ∧ Aside0 (Below w.heap.size w wr) ∧ Aside0 (wr.heap[gb]? = some (.cells #[.int .i64 x.f0, .slice B1 x.f1.length d1, .slice B2 x.f2.length d2] 28 (0, 0))))
       case first =>
        go_region_held3 (fun w' => w'.cell? ⟨gb, 1, none⟩ = some (.slice B1 x.f1.length d1) ∧ w'.cell? ⟨gb, 2, none⟩ = some (.slice B2 x.f2.length d2)) (first | go_keep | exact ⟨(blk_cell BK1.out 1).trans rfl, (blk_cell BK1.out 2).trans rfl⟩ | exact ⟨(blk_cell BK2.out 1).trans rfl, (blk_cell BK2.out 2).trans rfl⟩ | exact ⟨(blk_cell BK3.out 1).trans rfl, (blk_cell BK3.out 2).trans rfl⟩) (first
         | (go_at_call 25; ((with_reducible refine (patch_more.calls wx.drew (.slice none 0 0) [] _ _ x.f2 n _ (Below.refl _ _) (Kd.R_nil _ _ _ _ _) (Kd.C_below HI2.out HB.out) HL2.out AN.out).mono ?_); rintro e w4 ⟨v1, rfl, ho, hb, -, -⟩; obtain ⟨G1, g1, rfl⟩ := Kd.R_slice ho; have BK1 := Aside0.mk (blk_below BK.out hb); have HB1 := Aside0.mk (below_step HB.out hb); have HN1 := Aside0.mk (Kd.R_below HN.out hb); have HV1 := Aside0.mk ho; have hg4 := Aside0.mk hb.size; (try clear ho); (try clear hb)))
         | (go_at_call 25; ((with_reducible refine (patch_more.calls w4 (.slice none 0 0) [] _ _ x.f1 o _ (Below.refl _ _) (Kd.R_nil _ _ _ _ _) (Kd.C_below HI1.out HB1.out) HL1.out AO.out).mono ?_); rintro e w5 ⟨v2, rfl, ho, hb, -, -⟩; obtain ⟨G2, g2, rfl⟩ := Kd.R_slice ho; have BK2 := Aside0.mk (blk_below BK1.out hb); have HB2 := Aside0.mk (below_step HB1.out hb); have HN2 := Aside0.mk (Kd.R_below HN1.out hb); have HV2 := Aside0.mk ho; have HV1b := Aside0.mk (Kd.R_below HV1.out hb); have hgl := Aside0.mk (blk_lt BK.out); have hg5 := Aside0.mk hb.size; (try clear ho); (try clear hb)))
         | (refine Kd.R_append_step k28 (w0 := w) w.heap.size (by rfl) (.tmp 24) (.tmp 33) 29 28 (.agg #[(.int .i64 0), (.slice none 0 0), (.slice none 0 0)]) 56 rfl Try.underlying29 info28_ rfl (by decide) (by omega) vt t ⟨x.f0 + sh, n, o⟩ [.int .i64 (x.f0 + sh), .slice G1 n.length g1, .slice G2 o.length g2] (fun k_ => w.heap.size ≤ k_ ∧ k_ ≠ gb) (fun k_ => (w.heap.size ≤ k_ ∧ k_ ≠ gb) ∧ some k_ ≠ (vt : Value).ownBlock) rfl rfl ?aP (fun _ hk => hk) ?aF ?aO ?aB ?aS ?aL ?_; (case aP => exact k28_mkM _ _ _ (⟨x.f0 + sh, n, o⟩ : S28) (Kd.R_mono (ok' := fun k_ => (w.heap.size ≤ k_ ∧ k_ ≠ gb) ∧ some k_ ≠ (vt : Value).ownBlock) (Kd.R_lower (Kd.R_bound HV1b.out) HB.out.size) (fun k_ hk => HNW.out k_ hk.2.1)) (Kd.R_mono (ok' := fun k_ => (w.heap.size ≤ k_ ∧ k_ ≠ gb) ∧ some k_ ≠ (vt : Value).ownBlock) (Kd.R_lower (Kd.R_bound HV2.out) HB1.out.size) (fun k_ hk => HNW.out k_ (Nat.le_trans hg4.out hk.2.1)))); (case aF => exact fun k_ hk => (HNW.out k_ (Nat.le_trans hg4.out (Nat.le_trans hg5.out hk))).1); (case aO => exact HN2.out); (case aB => exact HB2.out); (case aS => exact HB2.out.size); (case aL => have := HTL.out; omega); intro v3 w6 ho hb hg hat; have BK3 := Aside0.mk (blk_grown BK2.out hg (fun e_ => HGN.out e_.symm)); have HB3 := Aside0.mk hb; have HN3 := Aside0.mk (Kd.R_mono (ok' := fun k_ => w.heap.size ≤ k_) ho (fun _ hk => hk.1)); (try clear ho); (try clear hb); (try clear hg); (try clear hat)))
        go_wp2_with fail
        go_meet
        exact ⟨_, rfl, HN3, HB3, BK3⟩
       case rest =>
        clear HB HN BK HGN HNW hcz1 hcz2
        obtain ⟨vt', rfl, HN, HB, BK⟩ := hcut
        have hcz1 : wc.cell? ⟨gb, 1, none⟩ = some (.slice B1 x.f1.length d1) := (blk_cell BK.out 1).trans rfl
        have hcz2 : wc.cell? ⟨gb, 2, none⟩ = some (.slice B2 x.f2.length d2) := (blk_cell BK.out 2).trans rfl
        go_wp2
        go_roundw
        case rel => exact ⟨j + 1, sh + ((x.f2.length : Int) - (x.f1.length : Int)), t ++ [⟨x.f0 + sh, n, o⟩], _, by omega, by go_num, by first | rfl | go_num, rfl, AH, HN, HB⟩
        case measure => simp [intOf]; omega
      ·rw [if_neg htl] at h; cases h
    ·rw [if_neg hsm] at h; cases h
   ·obtain rfl : j = l0.length := by omega
    have h := H.out
    rw [List.drop_length, patch_Invert.l0] at h
    simp only [Option.some.injEq, Prod.mk.injEq] at h
    obtain ⟨rfl, rfl⟩ := h
    go_wp2
    go_ret2
    exact ⟨_, rfl, Kd.R_N HN.out, HB.out⟩

end Go.Proofs.Ytlodaoijokfblaa.PPatchKnown
