/- What the given program's functions come to, each a Lean function and the walk that shows it: no condition beside those that each theorem names. -/
import Derived.Test.YtlodaoijokfblaaPPatchMadex0
import Derived.Test.YtlodaoijokfblaaPPatchMadex1
import Derived.Test.YtlodaoijokfblaaPPatchMadex2
namespace Go.Proofs.Ytlodaoijokfblaa.PPatchMade
open Go.RowKit Go.Proofs.YtlodaoijokfblaaW.PrintWords Go.Proofs.YtlodaoijokfblaaW.PrintLast Go.Proofs.YtlodaoijokfblaaW.PrintMore
attribute [local go_sem] max2_int min2_int max_two min_two max_three min_three max_four min_four   -- for this text's walks alone
set_option linter.unusedVariables false
set_option linter.unusedSimpArgs false

/-! ### tattingref1_Sort: function 27, by hand -/
section
open Kd
theorem N_lit_here {α : Type} (d : Kd α) {W : World} (base e : Nat) {xs : List α} {inner : List Value} {ok okp : Nat → Prop} (hrep : Reps (Kd.FK d W okp) d.sz xs inner) (hok : ∀ k, okp k → ok k) (hfresh : ok W.heap.size) (hbase : base ≤ W.heap.size) (hm : xs.length ≤ 9223372036854775807) :
  Kd.N d e (W.alloc (.cells inner.toArray e)) base ok (.slice (some ⟨W.heap.size, 0, none⟩) xs.length xs.length) xs := by
 have hr : (raw d.sz).R e (W.alloc (.cells inner.toArray e)) base (fun k => k = W.heap.size) (.slice (some ⟨W.heap.size, 0, none⟩) xs.length xs.length) (chunks d.sz xs.length inner) := by
  have hrep2 : Reps ((raw d.sz).M W base (fun _ => False)) d.sz (chunks d.sz xs.length inner) inner := reps_raw hrep (fun y c hk => ⟨d.K_len (FK_now hk), d.K_one (FK_now hk)⟩)
  refine ⟨fun k hk => ?_, inner, ?_, ?_⟩
  ·have : W.heap.size = k := by simpa [Value.ownBlock] using hk
   exact this.symm
  ·have h2 := World.ownsRow_lit (base := base) (e := e) (size := d.sz) W inner.toArray xs.length hbase (by simpa [maxLen] using hm) (by simpa using hrep.1)
   have e_ : (raw d.sz).sz = d.sz := rfl
   rw [e_]
   simpa [chunks_length] using h2
  ·exact hrep2.imp_ (fun p c hp => (raw d.sz).M_mono (fun k hk => hk.1.elim) (M_below ((raw d.sz).M_bound hp) (below_alloc (Below.refl _ _) _)))
 exact N_made hr (World.grownBy_alloc W _ none) ⟨W.heap.size, by simp [Value.ownBlock], Nat.le_refl _⟩ (chunks_length _ _ _) (fun j y c hy hc => by rw [chunks_get hc]; exact hrep.2 j y hy) hok hfresh
end
theorem alloc_size (w : World) (o : Obj) : (w.alloc o).heap.size = w.heap.size + 1 := by
 show (w.heap.push o).size = _
 exact Array.size_push _
theorem cell_kept_alloc {w : World} {a : Addr} {v : Value} (h : w.cell? a = some v) (o : Obj) : (w.alloc o).drew.cell? a = some v := by
 have hb := (below_drew (below_alloc (Below.refl w.heap.size w) o)).block a.block (World.block_lt_of_cell? w a h)
 simpa [World.cell?, hb] using h
theorem cell_alloc_ {w : World} {a : Addr} {v : Value} (h : w.cell? a = some v) (o : Obj) : (w.alloc o).cell? a = some v := cell_kept_alloc h o
theorem cell_alloc2 {w : World} {a : Addr} {v : Value} (h : w.cell? a = some v) (o o2 : Obj) : ((w.alloc o).alloc o2).drew.cell? a = some v := cell_alloc_ (cell_alloc_ h o) o2
theorem cut_begin {l : List (List Int)} {A : Option Addr} {c : Nat} (hc : l.length ≤ c) {hi : Nat} (h2 : hi ≤ l.length) :
  (∀ W : World, (Instr.slice 23 (.slice A l.length c) none (some (.int .i64 (hi : Int))) none).run Try.prog W = .ok (.slice A (l.take hi).length c) W) ∧ (l.take hi).length ≤ c ∧
   ∀ w : World, Kd.C (Kd.slice 5 (Kd.int .u8)) w A l.length l → Kd.C (Kd.slice 5 (Kd.int .u8)) w A (l.take hi).length (l.take hi) := by
 obtain ⟨i0, hi0, hz0, hz1, hz2⟩ := info_parts info22_
 have hlen : (l.take hi).length = hi := by rw [List.length_take]; omega
 refine ⟨fun W => ?_, by omega, fun w h => Kd.C_take h h2⟩
 have h := cut_to (P := Try.prog) 23 22 .i64 Try.underlying23 hi0 A l.length c (hi : Int) (by omega) (by omega) hc W
 rw [hlen]
 exact h
def sort_at (k : Nat) (t : List Int) : List (List Int) → Nat → Option Nat
 | [], q => some q
 | x :: xs, q => (tattingref1_Below.f k x t).bind fun c => if c = true then sort_at k t xs (q + 1) else some q
def tattingref1_Sort.l0 (k : Nat) : List (List Int) → List (List Int) → Option (List (List Int))
 | [], d => some d
 | t :: l, d => (sort_at k t d 0).bind fun q => if q < d.length ∧ ((strOfNums (d.getD q [])).toList == (strOfNums t).toList) = true then tattingref1_Sort.l0 k l d else if d.length < 100000000 then tattingref1_Sort.l0 k l (d.take q ++ [t] ++ d.drop q) else none
def tattingref1_Sort.f (k : Nat) (l : List (List Int)) : Option (List (List Int)) := tattingref1_Sort.l0 k l []
theorem sort_at_mono (k : Nat) (t : List Int) : ∀ (d : List (List Int)) (q : Nat), LeO (sort_at k t d q) (sort_at (k + 1) t d q)
 | [], _ => LeO.refl _
 | x :: d, q => LeO.bind (tattingref1_Below.mono _ _ _) fun c => LeO.ite (sort_at_mono k t d (q + 1)) (LeO.refl _)
theorem sort_l0_mono (k : Nat) : ∀ (l d : List (List Int)), LeO (tattingref1_Sort.l0 k l d) (tattingref1_Sort.l0 (k + 1) l d)
 | [], _ => LeO.refl _
 | t :: l, d => LeO.bind (sort_at_mono k t d 0) fun q => LeO.ite (sort_l0_mono k l _) (LeO.ite (sort_l0_mono k l _) (LeO.refl _))
theorem tattingref1_Sort.mono : ∀ a0 k, LeO (tattingref1_Sort.f k a0) (tattingref1_Sort.f (k + 1) a0) := fun a0 k => sort_l0_mono k a0 []
theorem sort_at_le (k : Nat) (t : List Int) : ∀ (d : List (List Int)) (q r : Nat), sort_at k t d q = some r → q ≤ r ∧ r ≤ q + d.length
 | [], q, r, h => by simp only [sort_at, Option.some.injEq] at h; subst h; simp
 | x :: d, q, r, h => by
  rw [sort_at, Option.bind_eq_some_iff] at h
  obtain ⟨c, _, h⟩ := h
  by_cases hc : c = true
  ·rw [if_pos hc] at h
   have := sort_at_le k t d (q + 1) r h
   simp only [List.length_cons]; omega
  ·rw [if_neg hc] at h
   obtain rfl := Option.some.inj h
   simp
theorem drop_tok_ {l : List (List Int)} {j : Nat} (h : j < l.length) : l.drop j = l.getD j [] :: l.drop (j + 1) := by
 rw [List.drop_eq_getElem_cons h]; simp [List.getD_eq_getElem?_getD, h]
set_option maxHeartbeats 8000000 in
set_option maxRecDepth 100000 in
theorem tattingref1_Sort.calls (k : Nat) (P0_ : Nat → Prop) (A0 : Option Addr) (c0 : Nat) (l0 : List (List Int)) (r : List (List Int)) (w : World) (hs0 : Kd.V (Kd.slice 5 (Kd.int .u8)) 22 w w.heap.size (fun k_ => P0_ k_) (.slice A0 l0.length c0) l0) (h : tattingref1_Sort.f k l0 = some r) :
  Calls Try.prog 27 #[.slice A0 l0.length c0] w fun e w' => ∃ v0_ : Value, e = .returned (v0_) ∧ Kd.N (Kd.slice 5 (Kd.int .u8)) 22 w' w.heap.size (fun k_ => (P0_ k_ ∨ w.heap.size ≤ k_)) v0_ r ∧ Below w.heap.size w w' := by
 have HR0 := Aside0.mk (Kd.V_reads' hs0).2.2
 have HC0 := Aside0.mk (Kd.V_reads' hs0).2.1
 have HS0 := Aside0.mk (Kd.V_bound hs0)
 have hm0 := Kd.C_max HR0.out
 have HB := Aside0.mk (Below.refl w.heap.size w)
 clear hs0
 have H := Aside0.mk (show tattingref1_Sort.l0 k (l0.drop 0) [] = some r from h)
 clear h
 go_enter Try.func27, Try.ntmps27
 go_wp2
 go_loopw [3, 4] (fun s3 ix wr => ∃ (j : Nat) (d : List (List Int)) (vd : Value), j ≤ l0.length ∧ ix = .int .i64 j ∧ vd = s3 ∧ Aside0 (tattingref1_Sort.l0 k (l0.drop j) d = some r) ∧ Aside0 (Kd.N (Kd.slice 5 (Kd.int .u8)) 22 wr w.heap.size (fun k_ => (P0_ k_ ∨ w.heap.size ≤ k_)) vd d) ∧ Aside0 (Below w.heap.size w wr)) (fun _ ix _ => l0.length - (intOf ix).toNat)
 case atStart => exact ⟨0, [], _, Nat.zero_le _, rfl, rfl, H, ⟨Kd.N_nil _ _ _ _ _⟩, HB⟩
 case round =>
  clear H HB
  obtain ⟨j, d, vd, hj, rfl, rfl, H, HN, HB⟩ := hrel
  by_cases hjl : j < l0.length
  ·obtain ⟨ad, At, ct, rfl, hx, hl, hi⟩ := at_L1 HR0.out (j : Int) (by omega) (by omega)
   obtain ⟨ce, hce, hMe, hcc⟩ := Kd.V_get HS0.out ([] : List Int) (j : Int) (by omega) (by omega)
   obtain ⟨ua, uc, rfl, ul, ge⟩ := Kd.FK_slice_open hMe
   have hv := hcc 0 _ rfl
   have ea_ : (ad.add ((j : Int).toNat * (Kd.slice 5 (Kd.int .u8)).sz + 0)) = ad.add ((j : Int).toNat) := by show ad.add ((j : Int).toNat * 1 + 0) = _; rw [Nat.mul_one, Nat.add_zero]
   rw [ea_] at hv
   replace hv := Option.some.inj (hv.symm.trans hx)
   injection hv with hva_ hvn_ hvc_
   have ge2 : Kd.F (Kd.int .u8) w _ At (rd_L1 l0 (j : Int)).length (rd_L1 l0 (j : Int)) := hva_ ▸ ge
   clear hcc hce hMe ul ge hva_ hvn_ hvc_ ea_
   have e0 : rd_L1 l0 (j : Int) = l0.getD j [] := rfl
   have h := H.out
   rw [drop_tok_ hjl, ← e0, tattingref1_Sort.l0, Option.bind_eq_some_iff] at h
   obtain ⟨Q, hQ, h⟩ := h
   simp only [Int.toNat_natCast] at hx
   generalize rd_L1 l0 (j : Int) = t at hx hl hi hQ h ge2
   have HFT := Aside0.mk ge2
   clear ge2
   have hx := pw_cell_below HB.out hx
   have HXK := Aside0.mk hx
   have HI := Aside0.mk (Kd.C_below hi HB.out)
   have HL := Aside0.mk hl
   have AQ := Aside0.mk (show sort_at k t (d.drop 0) 0 = some Q from hQ)
   have AQL := Aside0.mk (sort_at_le k t d 0 Q hQ)
   have AH := Aside0.mk h
   obtain ⟨Ad, cd, rfl⟩ := Kd.N_slice HN.out
   have HRD := Aside0.mk (Kd.N_reads' HN.out).2.2
   have HCD := Aside0.mk (Kd.N_reads' HN.out).2.1
   have hmd := Kd.C_max HRD.out
   have HCT := Aside0.mk (fun hi (h2 : hi ≤ d.length) => cut_begin (A := Ad) HCD.out h2)
   have HCE := Aside0.mk (fun lo (h2 : lo ≤ d.length) => cut_end (A := Ad) HCD.out h2)
   clear hi hl h hQ e0 H
   go_wp2
   go_loopw [5] (fun ix w' => ∃ q : Nat, q ≤ d.length ∧ ix = .int .i64 q ∧ Aside0 (sort_at k t (d.drop q) q = some Q) ∧ Drawn0 wr w') (fun ix _ => d.length - (intOf ix).toNat)
   case atStart => exact ⟨0, Nat.zero_le _, rfl, AQ, Drawn0.refl _⟩
   case round =>
    clear AQ
    obtain ⟨q, hq, rfl, AQ, ⟨m1, rfl⟩⟩ := hrel
    by_cases hql : q < d.length
    ·obtain ⟨ad2, Au, cu, eAd, hy, hly, hiy⟩ := at_L1 HRD.out (q : Int) (by omega) (by omega)
     cases eAd
     have hA := AQ.out
     rw [drop_tok_ hql, sort_at, Option.bind_eq_some_iff] at hA
     obtain ⟨c, hc, hA⟩ := hA
     have eB : rd_L1 d (q : Int) = d.getD q [] := rfl
     rw [← eB] at hc
     simp only [Int.toNat_natCast] at hy
     generalize rd_L1 d (q : Int) = y at hy hly hiy hc
     have HC := Aside0.mk hc
     have HIY := Aside0.mk hiy
     have HLY := Aside0.mk hly
     have AA := Aside0.mk hA
     have d1 : decide (q < d.length) = true := decide_eq_true hql
     have hx1 : (wr.drewN m1).cell? (ad.add j) = some (.slice At t.length ct) := HXK.out
     have hy1 : (wr.drewN m1).cell? (ad2.add q) = some (.slice Au y.length cu) := hy
     have HI1 := Aside0.mk (Kd.C_drewN HI.out m1)
     have HIY1 := Aside0.mk (Kd.C_drewN HIY.out m1)
     have HD := Aside0.mk (Drawn0.step (Drawn0.refl wr) m1)
     clear hc hiy hly hA AQ eB hx hy HIY
     generalize wr.drewN m1 = wv at hx1 hy1 HI1 HIY1 HD ⊢
     cases c with
     | true =>
      have AQ := Aside0.mk (show sort_at k t (d.drop (q + 1)) (q + 1) = some Q by have := AA.out; rwa [if_pos rfl] at this)
      go_wp2
      go_quiet (first | (go_at_call 37; refine Calls.quiet_of ((tattingref1_Below.calls k _ _ y _ _ t true _ (Kd.C_drewN HIY1.out _) HLY.out (Kd.C_drewN HI1.out _) HL.out HC.out).mono (fun e w' hp => ⟨hp.1, hp.2.out⟩))))
      go_wp2
      go_roundw
      case rel => exact ⟨q + 1, by omega, by go_num, AQ, by repeat (first | exact HD.out | apply Drawn0.step)⟩
      case measure => simp [intOf]; omega
     | false =>
      have hQ := AA.out
      rw [if_neg (by decide)] at hQ
      obtain rfl := Option.some.inj hQ
      clear AA hQ
      go_wp2
      go_quiet (first | (go_at_call 37; refine Calls.quiet_of ((tattingref1_Below.calls k _ _ y _ _ t false _ (Kd.C_drewN HIY1.out _) HLY.out (Kd.C_drewN HI1.out _) HL.out HC.out).mono (fun e w' hp => ⟨hp.1, hp.2.out⟩))))
      go_wp2
      have HD2 := Aside0.mk (Drawn0.step HD.out nq)
      clear HD hx1 hy1 HI1 HIY1 HC HLY d1 hql hq
      generalize wv.drewN nq = wz at HD2 ⊢
      obtain ⟨mz, ez⟩ := HD2.out
      have HBz := Aside0.mk (show Below w.heap.size w wz by rw [ez]; exact drewN_below HB.out mz)
      have HNz := Aside0.mk (show Kd.N (Kd.slice 5 (Kd.int .u8)) 22 wz w.heap.size (fun k_ => (P0_ k_ ∨ w.heap.size ≤ k_)) _ d by rw [ez]; exact Kd.N_below HN.out (drewN_below (Below.refl _ _) mz))
      have hxz : wz.cell? (ad.add j) = some (.slice At t.length ct) := by rw [ez]; exact HXK.out
      have HIz := Aside0.mk (show Kd.C (Kd.int .u8) wz At t.length t by rw [ez]; exact Kd.C_drewN HI.out mz)
      have HRz := Aside0.mk (Kd.N_reads' HNz.out).2.2
      clear HD2 ez HB HN HI HXK HRD
      by_cases hQl : q < d.length
      ·obtain ⟨ad3, Av, cv, eAd, hy, hly, hiy⟩ := at_L1 HRz.out (q : Int) (by omega) (by omega)
       cases eAd
       have eB : rd_L1 d (q : Int) = d.getD q [] := rfl
       have h := AH.out
       rw [← eB] at h
       simp only [Int.toNat_natCast] at hy
       generalize rd_L1 d (q : Int) = y at hy hly hiy h
       have HIY := Aside0.mk hiy
       have HLY := Aside0.mk hly
       have d1 : decide (q < d.length) = true := decide_eq_true hQl
       clear hiy hly eB
       generalize hS : ((strOfNums y).toList == (strOfNums t).toList) = S at h
       have HSM := Aside0.mk (show tattingref1_Same.f y t = some S from congrArg some hS)
       clear hS
       cases S with
       | true =>
        rw [if_pos ⟨hQl, rfl⟩] at h
        have AN := Aside0.mk h
        clear h AH
        go_quiet (first | (go_at_call 38; refine Calls.quiet_of ((tattingref1_Same.calls _ _ y _ _ t true _ (Kd.C_drewN HIY.out _) HLY.out (Kd.C_drewN HIz.out _) HL.out HSM.out).mono (fun e w' hp => ⟨hp.1, hp.2.out⟩))))
        go_wp2
        go_roundw
        case rel => exact ⟨j + 1, d, _, by omega, by go_num, rfl, AN, ⟨Kd.N_below HNz.out (drewN_below (Below.refl _ _) nq)⟩, ⟨drewN_below HBz.out nq⟩⟩
        case measure => simp [intOf]; omega
       | false =>
        rw [if_neg (fun hh => by cases hh.2)] at h
        by_cases hdl : d.length < 100000000
        ·rw [if_pos hdl] at h
         have AN := Aside0.mk h
         clear h AH
         go_quiet (first | (go_at_call 38; refine Calls.quiet_of ((tattingref1_Same.calls _ _ y _ _ t false _ (Kd.C_drewN HIY.out _) HLY.out (Kd.C_drewN HIz.out _) HL.out HSM.out).mono (fun e w' hp => ⟨hp.1, hp.2.out⟩))))
         go_wp2
         clear hy HIY HLY HSM d1
         have n0_ := Aside0.mk (drewN_below HBz.out nq)
         have n1_ := Aside0.mk (Kd.N_below HNz.out (drewN_below (Below.refl wz.heap.size wz) nq))
         have n2_ : (wz.drewN nq).cell? (ad.add j) = some (.slice At t.length ct) := hxz
         clear HBz HNz hxz HIz HRz
         have HBz := n0_
         have HNz := n1_
         have hxz := n2_
         clear n0_ n1_ n2_
         generalize wz.drewN nq = wy at HBz HNz hxz ⊢
         have hxz1 : wy.drew.cell? (ad.add j) = some (.slice At t.length ct) := hxz
         have hxz2 : (wy.alloc (.cells #[] 22)).drew.cell? (ad.add j) = some (.slice At t.length ct) := cell_kept_alloc hxz _
         have hxz3 : (wy.alloc (.cells #[.slice At t.length ct] 22)).drew.cell? (ad.add j) = some (.slice At t.length ct) := cell_kept_alloc hxz _
         obtain ⟨hcutt, hct1, hctC⟩ := HCT.out q (by have := AQL.out; omega)
         obtain ⟨A3, hcute, hce1, hceC⟩ := HCE.out q (by have := AQL.out; omega)
         have HF1 := Aside0.mk (Kd.F_imp (Kd.F_bound (Kd.N_F HNz.out)) (fun W' hC => hctC W' hC))
         have HF2 := Aside0.mk (Kd.F_imp (Kd.F_bound (Kd.N_F HNz.out)) (fun W' hC => hceC W' hC))
         have hT1 : (d.take q).length ≤ d.length := by rw [List.length_take]; omega
         have hT2 : (d.drop q).length ≤ d.length := by rw [List.length_drop]; omega
         clear hctC hceC
         generalize d.take q = T1 at hcutt hct1 HF1 hT1 AN
         generalize d.drop q = T2 at hcute hce1 HF2 hT2 AN
         have HFy := Aside0.mk (Kd.F_below HFT.out HBz.out)
         have hwy := HBz.out.size
         have hsz : ∀ o : Obj, (wy.alloc o).heap.size = wy.heap.size + 1 := fun o => alloc_size wy o
         have hlt1 : t.length ≤ ct := HL.out
         have E0 := Aside0.mk (N_lit_here (Kd.slice 5 (Kd.int .u8)) (W := wy) wy.heap.size 22 (xs := []) (inner := []) (ok := (fun k_ => P0_ k_ ∨ w.heap.size ≤ k_)) (okp := fun _ => False) (Reps.none _ _) (fun _ hk => hk.elim) (.inr hwy) (Nat.le_refl _) (by simp))
         have ECA0 := N_lit_here (Kd.slice 5 (Kd.int .u8)) (W := wy.alloc (.cells #[.slice At t.length ct] 22)) wy.heap.size 22 (xs := []) (inner := []) (ok := (fun k_ => P0_ k_ ∨ w.heap.size ≤ k_)) (okp := fun _ => False) (Reps.none _ _) (fun _ hk => hk.elim) (.inr (by rw [hsz]; omega)) (by rw [hsz]; omega) (by simp)
         rw [hsz] at ECA0
         have ECA := Aside0.mk ECA0
         have LCA := Aside0.mk (Kd.N_drew (Kd.N_alloc (N_lit_here (Kd.slice 5 (Kd.int .u8)) (W := wy) wy.heap.size 22 (xs := [t]) (inner := [.slice At t.length ct]) (ok := (fun k_ => k_ = wy.heap.size ∨ P0_ k_ ∧ k_ < w.heap.size)) (okp := fun k_ => P0_ k_ ∧ k_ < w.heap.size) (Reps.one (Kd.FK_slice_mk HL.out HFy.out) (Reps.none _ _)) (fun _ hk => .inr hk) (.inl rfl) (Nat.le_refl _) (by simp)) (.cells #[] 22)))
         have LAC0 := N_lit_here (Kd.slice 5 (Kd.int .u8)) (W := wy.alloc (.cells #[] 22)) wy.heap.size 22 (xs := [t]) (inner := [.slice At t.length ct]) (ok := (fun k_ => k_ = wy.heap.size + 1 ∨ P0_ k_ ∧ k_ < w.heap.size)) (okp := fun k_ => P0_ k_ ∧ k_ < w.heap.size) (Reps.one (Kd.FK_slice_mk HL.out (Kd.F_alloc HFy.out _)) (Reps.none _ _)) (fun _ hk => .inr hk) (.inl (hsz _)) (by rw [hsz]; omega) (by simp)
         rw [hsz] at LAC0
         have LAC := Aside0.mk (Kd.N_drew LAC0)
         clear ECA0 LAC0
         go_region_held3 (fun w' => w'.cell? (ad.add j) = some (.slice At t.length ct)) (first | go_keep | exact pw_cell_below HB3.out hxz | exact pw_cell_below HB2.out hxz | exact cell_alloc_ (pw_cell_below HB1.out hxz) _ | exact pw_cell_below HB1.out hxz | exact hxz1 | exact hxz2 | exact hxz3 | exact cell_alloc2 hxz _ _) (first
          | (refine Kd.N_append_rows_step (Kd.slice 5 (Kd.int .u8)) (w0 := wy) wy.heap.size (by rfl) (.tmp 44) (.tmp 47) 23 22 (.slice none 0 0) 24 rfl Try.underlying23 info22_ rfl (by decide) (by omega) (.slice (some ⟨wy.heap.size, 0, none⟩) 0 0) [] T1 _ T1.length cd (fun k_ => P0_ k_ ∨ w.heap.size ≤ k_) (fun k_ => (P0_ k_ ∨ w.heap.size ≤ k_) ∧ k_ < wy.heap.size) rfl rfl (Kd.N_drew E0.out) (Kd.F_below HF1.out (below_drew (below_alloc (Below.refl wy.heap.size wy) _))) (fun k_ hk => ⟨hk.1, fun e_ => by simp [Value.ownBlock] at e_ <;> omega⟩) (fun k_ hk => .inr (Nat.le_trans hwy (Nat.le_trans (below_size (below_drew (below_alloc (Below.refl wy.heap.size wy) _))) hk))) (below_drew (below_alloc (Below.refl wy.heap.size wy) _)) (below_size (below_drew (below_alloc (Below.refl wy.heap.size wy) _))) (by simp only [List.length_nil]; omega) ?_; intro v48 w6 ho hb hg hat; have HN1 := Aside0.mk ho; have HB1 := Aside0.mk hb; (try clear ho); (try clear hb); (try clear hg); (try clear hat))
          | (refine Kd.N_append_rows_step (Kd.slice 5 (Kd.int .u8)) (w0 := wy) wy.heap.size (by rfl) (.tmp 44) (.tmp 47) 23 22 (.slice none 0 0) 24 rfl Try.underlying23 info22_ rfl (by decide) (by omega) (.slice (some ⟨wy.heap.size, 0, none⟩) 0 0) [] T1 _ T1.length cd (fun k_ => P0_ k_ ∨ w.heap.size ≤ k_) (fun k_ => (P0_ k_ ∨ w.heap.size ≤ k_) ∧ k_ < wy.heap.size) rfl rfl (Kd.N_drew (Kd.N_alloc E0.out _)) (Kd.F_below HF1.out (below_drew (below_alloc (below_alloc (Below.refl wy.heap.size wy) _) _))) (fun k_ hk => ⟨hk.1, fun e_ => by simp [Value.ownBlock] at e_ <;> omega⟩) (fun k_ hk => .inr (Nat.le_trans hwy (Nat.le_trans (below_size (below_drew (below_alloc (below_alloc (Below.refl wy.heap.size wy) _) _))) hk))) (below_drew (below_alloc (below_alloc (Below.refl wy.heap.size wy) _) _)) (below_size (below_drew (below_alloc (below_alloc (Below.refl wy.heap.size wy) _) _))) (by simp only [List.length_nil]; omega) ?_; intro v48 w6 ho hb hg hat; have HN1 := Aside0.mk ho; have HB1 := Aside0.mk hb; have LN := Aside0.mk (Kd.N_grown LAC.out hg (fun k_ hk e_ => by rcases hk with h_ | h_ <;> simp [Value.ownBlock] at e_ <;> omega)); have HNL := Aside0.mk (show some (wy.heap.size + 1) ≠ v48.ownBlock from fun e_ => by rcases hat with h_ | ⟨b_, h_, hle_⟩; (rw [h_] at e_; simp [Value.ownBlock] at e_ <;> omega); (rw [h_] at e_; injection e_ with e_; have hle_ : ((wy.alloc (.cells #[] 22)).alloc (.cells #[.slice At t.length ct] 22)).heap.size ≤ b_ := hle_; rw [alloc_size, alloc_size] at hle_; omega)); (try clear ho); (try clear hb); (try clear hg); (try clear hat))
          | (refine Kd.N_append_rows_step (Kd.slice 5 (Kd.int .u8)) (w0 := wy) wy.heap.size (by rfl) (.tmp 44) (.tmp 47) 23 22 (.slice none 0 0) 24 rfl Try.underlying23 info22_ rfl (by decide) (by omega) (.slice (some ⟨wy.heap.size + 1, 0, none⟩) 0 0) [] T1 _ T1.length cd (fun k_ => P0_ k_ ∨ w.heap.size ≤ k_) (fun k_ => (P0_ k_ ∨ w.heap.size ≤ k_) ∧ k_ < wy.heap.size) rfl rfl (Kd.N_drew ECA.out) (Kd.F_below HF1.out (below_drew (below_alloc (below_alloc (Below.refl wy.heap.size wy) _) _))) (fun k_ hk => ⟨hk.1, fun e_ => by simp [Value.ownBlock] at e_ <;> omega⟩) (fun k_ hk => .inr (Nat.le_trans hwy (Nat.le_trans (below_size (below_drew (below_alloc (below_alloc (Below.refl wy.heap.size wy) _) _))) hk))) (below_drew (below_alloc (below_alloc (Below.refl wy.heap.size wy) _) _)) (below_size (below_drew (below_alloc (below_alloc (Below.refl wy.heap.size wy) _) _))) (by simp only [List.length_nil]; omega) ?_; intro v48 w6 ho hb hg hat; have HN1 := Aside0.mk ho; have HB1 := Aside0.mk hb; have LN := Aside0.mk (Kd.N_grown LCA.out hg (fun k_ hk e_ => by rcases hk with h_ | h_ <;> simp [Value.ownBlock] at e_ <;> omega)); have HNL := Aside0.mk (show some (wy.heap.size) ≠ v48.ownBlock from fun e_ => by rcases hat with h_ | ⟨b_, h_, hle_⟩; (rw [h_] at e_; simp [Value.ownBlock] at e_ <;> omega); (rw [h_] at e_; injection e_ with e_; have hle_ : ((wy.alloc (.cells #[.slice At t.length ct] 22)).alloc (.cells #[] 22)).heap.size ≤ b_ := hle_; rw [alloc_size, alloc_size] at hle_; omega)); (try clear ho); (try clear hb); (try clear hg); (try clear hat))
          | (refine Kd.N_append_rows_step (Kd.slice 5 (Kd.int .u8)) (w0 := wy) wy.heap.size (by rfl) (.tmp 48) (.tmp 53) 23 22 (.slice none 0 0) 24 rfl Try.underlying23 info22_ rfl (by decide) (by omega) v48 ([] ++ T1) [t] (some ⟨w6.heap.size, 0, none⟩) 1 1 (fun k_ => P0_ k_ ∨ w.heap.size ≤ k_) (fun k_ => k_ = w6.heap.size ∨ P0_ k_ ∧ k_ < w.heap.size) rfl rfl (Kd.N_alloc HN1.out _) (Kd.N_F (N_lit_here (Kd.slice 5 (Kd.int .u8)) (W := w6) wy.heap.size 22 (xs := [t]) (inner := [.slice At t.length ct]) (ok := (fun k_ => k_ = w6.heap.size ∨ P0_ k_ ∧ k_ < w.heap.size)) (okp := fun k_ => P0_ k_ ∧ k_ < w.heap.size) (Reps.one (Kd.FK_slice_mk HL.out (Kd.F_below HFy.out HB1.out)) (Reps.none _ _)) (fun _ hk => .inr hk) (.inl rfl) HB1.out.size (by simp))) (fun k_ hk => by rcases hk with h_ | h_; (refine ⟨.inr (by have := HB1.out.size; omega), fun e_ => ?_⟩; subst h_; have := Kd.N_lt HN1.out _ e_.symm; omega); exact ⟨.inl h_.1, fun e_ => by have := Kd.N_base HN1.out k_ e_.symm; omega⟩) (fun k_ hk => .inr (Nat.le_trans hwy (Nat.le_trans (below_size (HB1.out.alloc HB1.out.size (.cells #[.slice At t.length ct] 22))) hk))) (HB1.out.alloc HB1.out.size (.cells #[.slice At t.length ct] 22)) (below_size (HB1.out.alloc HB1.out.size (.cells #[.slice At t.length ct] 22))) (by simp only [List.nil_append]; omega) ?_; intro v54 w7 ho hb hg hat; have HN2 := Aside0.mk ho; have HB2 := Aside0.mk hb; (try clear ho); (try clear hb); (try clear hg); (try clear hat))
          | (refine Kd.N_append_rows_step (Kd.slice 5 (Kd.int .u8)) (w0 := wy) wy.heap.size (by rfl) (.tmp 48) (.tmp 53) 23 22 (.slice none 0 0) 24 rfl Try.underlying23 info22_ rfl (by decide) (by omega) v48 ([] ++ T1) [t] (some ⟨wy.heap.size + 1, 0, none⟩) 1 1 (fun k_ => P0_ k_ ∨ w.heap.size ≤ k_) (fun k_ => k_ = wy.heap.size + 1 ∨ P0_ k_ ∧ k_ < w.heap.size) rfl rfl (HN1.out) (Kd.N_F LN.out) (fun k_ hk => by rcases hk with h_ | h_; (refine ⟨.inr (by have := HB1.out.size; omega), fun e_ => ?_⟩; subst h_; exact HNL.out e_); exact ⟨.inl h_.1, fun e_ => by have := Kd.N_base HN1.out k_ e_.symm; omega⟩) (fun k_ hk => .inr (Nat.le_trans hwy (Nat.le_trans (below_size HB1.out) hk))) HB1.out (below_size HB1.out) (by simp only [List.nil_append]; omega) ?_; intro v54 w7 ho hb hg hat; have HN2 := Aside0.mk ho; have HB2 := Aside0.mk hb; (try clear ho); (try clear hb); (try clear hg); (try clear hat))
          | (refine Kd.N_append_rows_step (Kd.slice 5 (Kd.int .u8)) (w0 := wy) wy.heap.size (by rfl) (.tmp 48) (.tmp 53) 23 22 (.slice none 0 0) 24 rfl Try.underlying23 info22_ rfl (by decide) (by omega) v48 ([] ++ T1) [t] (some ⟨wy.heap.size, 0, none⟩) 1 1 (fun k_ => P0_ k_ ∨ w.heap.size ≤ k_) (fun k_ => k_ = wy.heap.size ∨ P0_ k_ ∧ k_ < w.heap.size) rfl rfl (HN1.out) (Kd.N_F LN.out) (fun k_ hk => by rcases hk with h_ | h_; (refine ⟨.inr (by have := HB1.out.size; omega), fun e_ => ?_⟩; subst h_; exact HNL.out e_); exact ⟨.inl h_.1, fun e_ => by have := Kd.N_base HN1.out k_ e_.symm; omega⟩) (fun k_ hk => .inr (Nat.le_trans hwy (Nat.le_trans (below_size HB1.out) hk))) HB1.out (below_size HB1.out) (by simp only [List.nil_append]; omega) ?_; intro v54 w7 ho hb hg hat; have HN2 := Aside0.mk ho; have HB2 := Aside0.mk hb; (try clear ho); (try clear hb); (try clear hg); (try clear hat))
          | (refine Kd.N_append_rows_step (Kd.slice 5 (Kd.int .u8)) (w0 := wy) wy.heap.size (by rfl) (.tmp 54) (.tmp 57) 23 22 (.slice none 0 0) 24 rfl Try.underlying23 info22_ rfl (by decide) (by omega) v54 ([] ++ T1 ++ [t]) T2 _ T2.length (cd - q) (fun k_ => P0_ k_ ∨ w.heap.size ≤ k_) (fun k_ => (P0_ k_ ∨ w.heap.size ≤ k_) ∧ k_ < wy.heap.size) rfl rfl HN2.out (Kd.F_below HF2.out HB2.out) (fun k_ hk => ⟨hk.1, fun e_ => by have := Kd.N_base HN2.out k_ e_.symm; omega⟩) (fun k_ hk => .inr (Nat.le_trans hwy (Nat.le_trans (below_size HB2.out) hk))) HB2.out (below_size HB2.out) (by simp only [List.nil_append, List.length_append, List.length_cons, List.length_nil]; omega) ?_; intro v58 w8 ho hb hg hat; have HN3 := Aside0.mk ho; have HB3 := Aside0.mk hb; (try clear ho); (try clear hb); (try clear hg); (try clear hat)))
         all_goals go_wp2
         all_goals go_roundw
         all_goals first
          | exact ⟨j + 1, _, _, by omega, by go_num, rfl, AN, ⟨Kd.N_lower HN3.out hwy⟩, ⟨below_step HBz.out HB3.out⟩⟩
          | (simp [intOf]; omega)
        ·rw [if_neg hdl] at h; cases h
      ·have d1 : decide (q < d.length) = false := decide_eq_false hQl
       have h := AH.out
       rw [if_neg (fun hh => hQl hh.1)] at h
       by_cases hdl : d.length < 100000000
       ·rw [if_pos hdl] at h
        have AN := Aside0.mk h
        clear h AH
        go_quiet (fail)
        go_wp2
        clear d1
        have n0_ := Aside0.mk (drewN_below HBz.out nq)
        have n1_ := Aside0.mk (Kd.N_below HNz.out (drewN_below (Below.refl wz.heap.size wz) nq))
        have n2_ : (wz.drewN nq).cell? (ad.add j) = some (.slice At t.length ct) := hxz
        clear HBz HNz hxz HIz HRz
        have HBz := n0_
        have HNz := n1_
        have hxz := n2_
        clear n0_ n1_ n2_
        generalize wz.drewN nq = wy at HBz HNz hxz ⊢
        have hxz1 : wy.drew.cell? (ad.add j) = some (.slice At t.length ct) := hxz
        have hxz2 : (wy.alloc (.cells #[] 22)).drew.cell? (ad.add j) = some (.slice At t.length ct) := cell_kept_alloc hxz _
        have hxz3 : (wy.alloc (.cells #[.slice At t.length ct] 22)).drew.cell? (ad.add j) = some (.slice At t.length ct) := cell_kept_alloc hxz _
        obtain ⟨hcutt, hct1, hctC⟩ := HCT.out q (by have := AQL.out; omega)
        obtain ⟨A3, hcute, hce1, hceC⟩ := HCE.out q (by have := AQL.out; omega)
        have HF1 := Aside0.mk (Kd.F_imp (Kd.F_bound (Kd.N_F HNz.out)) (fun W' hC => hctC W' hC))
        have HF2 := Aside0.mk (Kd.F_imp (Kd.F_bound (Kd.N_F HNz.out)) (fun W' hC => hceC W' hC))
        have hT1 : (d.take q).length ≤ d.length := by rw [List.length_take]; omega
        have hT2 : (d.drop q).length ≤ d.length := by rw [List.length_drop]; omega
        clear hctC hceC
        generalize d.take q = T1 at hcutt hct1 HF1 hT1 AN
        generalize d.drop q = T2 at hcute hce1 HF2 hT2 AN
        have HFy := Aside0.mk (Kd.F_below HFT.out HBz.out)
        have hwy := HBz.out.size
        have hsz : ∀ o : Obj, (wy.alloc o).heap.size = wy.heap.size + 1 := fun o => alloc_size wy o
        have hlt1 : t.length ≤ ct := HL.out
        have E0 := Aside0.mk (N_lit_here (Kd.slice 5 (Kd.int .u8)) (W := wy) wy.heap.size 22 (xs := []) (inner := []) (ok := (fun k_ => P0_ k_ ∨ w.heap.size ≤ k_)) (okp := fun _ => False) (Reps.none _ _) (fun _ hk => hk.elim) (.inr hwy) (Nat.le_refl _) (by simp))
        have ECA0 := N_lit_here (Kd.slice 5 (Kd.int .u8)) (W := wy.alloc (.cells #[.slice At t.length ct] 22)) wy.heap.size 22 (xs := []) (inner := []) (ok := (fun k_ => P0_ k_ ∨ w.heap.size ≤ k_)) (okp := fun _ => False) (Reps.none _ _) (fun _ hk => hk.elim) (.inr (by rw [hsz]; omega)) (by rw [hsz]; omega) (by simp)
        rw [hsz] at ECA0
        have ECA := Aside0.mk ECA0
        have LCA := Aside0.mk (Kd.N_drew (Kd.N_alloc (N_lit_here (Kd.slice 5 (Kd.int .u8)) (W := wy) wy.heap.size 22 (xs := [t]) (inner := [.slice At t.length ct]) (ok := (fun k_ => k_ = wy.heap.size ∨ P0_ k_ ∧ k_ < w.heap.size)) (okp := fun k_ => P0_ k_ ∧ k_ < w.heap.size) (Reps.one (Kd.FK_slice_mk HL.out HFy.out) (Reps.none _ _)) (fun _ hk => .inr hk) (.inl rfl) (Nat.le_refl _) (by simp)) (.cells #[] 22)))
        have LAC0 := N_lit_here (Kd.slice 5 (Kd.int .u8)) (W := wy.alloc (.cells #[] 22)) wy.heap.size 22 (xs := [t]) (inner := [.slice At t.length ct]) (ok := (fun k_ => k_ = wy.heap.size + 1 ∨ P0_ k_ ∧ k_ < w.heap.size)) (okp := fun k_ => P0_ k_ ∧ k_ < w.heap.size) (Reps.one (Kd.FK_slice_mk HL.out (Kd.F_alloc HFy.out _)) (Reps.none _ _)) (fun _ hk => .inr hk) (.inl (hsz _)) (by rw [hsz]; omega) (by simp)
        rw [hsz] at LAC0
        have LAC := Aside0.mk (Kd.N_drew LAC0)
        clear ECA0 LAC0
        go_region_held3 (fun w' => w'.cell? (ad.add j) = some (.slice At t.length ct)) (first | go_keep | exact pw_cell_below HB3.out hxz | exact pw_cell_below HB2.out hxz | exact cell_alloc_ (pw_cell_below HB1.out hxz) _ | exact pw_cell_below HB1.out hxz | exact hxz1 | exact hxz2 | exact hxz3 | exact cell_alloc2 hxz _ _) (first
         | (refine Kd.N_append_rows_step (Kd.slice 5 (Kd.int .u8)) (w0 := wy) wy.heap.size (by rfl) (.tmp 44) (.tmp 47) 23 22 (.slice none 0 0) 24 rfl Try.underlying23 info22_ rfl (by decide) (by omega) (.slice (some ⟨wy.heap.size, 0, none⟩) 0 0) [] T1 _ T1.length cd (fun k_ => P0_ k_ ∨ w.heap.size ≤ k_) (fun k_ => (P0_ k_ ∨ w.heap.size ≤ k_) ∧ k_ < wy.heap.size) rfl rfl (Kd.N_drew E0.out) (Kd.F_below HF1.out (below_drew (below_alloc (Below.refl wy.heap.size wy) _))) (fun k_ hk => ⟨hk.1, fun e_ => by simp [Value.ownBlock] at e_ <;> omega⟩) (fun k_ hk => .inr (Nat.le_trans hwy (Nat.le_trans (below_size (below_drew (below_alloc (Below.refl wy.heap.size wy) _))) hk))) (below_drew (below_alloc (Below.refl wy.heap.size wy) _)) (below_size (below_drew (below_alloc (Below.refl wy.heap.size wy) _))) (by simp only [List.length_nil]; omega) ?_; intro v48 w6 ho hb hg hat; have HN1 := Aside0.mk ho; have HB1 := Aside0.mk hb; (try clear ho); (try clear hb); (try clear hg); (try clear hat))
         | (refine Kd.N_append_rows_step (Kd.slice 5 (Kd.int .u8)) (w0 := wy) wy.heap.size (by rfl) (.tmp 44) (.tmp 47) 23 22 (.slice none 0 0) 24 rfl Try.underlying23 info22_ rfl (by decide) (by omega) (.slice (some ⟨wy.heap.size, 0, none⟩) 0 0) [] T1 _ T1.length cd (fun k_ => P0_ k_ ∨ w.heap.size ≤ k_) (fun k_ => (P0_ k_ ∨ w.heap.size ≤ k_) ∧ k_ < wy.heap.size) rfl rfl (Kd.N_drew (Kd.N_alloc E0.out _)) (Kd.F_below HF1.out (below_drew (below_alloc (below_alloc (Below.refl wy.heap.size wy) _) _))) (fun k_ hk => ⟨hk.1, fun e_ => by simp [Value.ownBlock] at e_ <;> omega⟩) (fun k_ hk => .inr (Nat.le_trans hwy (Nat.le_trans (below_size (below_drew (below_alloc (below_alloc (Below.refl wy.heap.size wy) _) _))) hk))) (below_drew (below_alloc (below_alloc (Below.refl wy.heap.size wy) _) _)) (below_size (below_drew (below_alloc (below_alloc (Below.refl wy.heap.size wy) _) _))) (by simp only [List.length_nil]; omega) ?_; intro v48 w6 ho hb hg hat; have HN1 := Aside0.mk ho; have HB1 := Aside0.mk hb; have LN := Aside0.mk (Kd.N_grown LAC.out hg (fun k_ hk e_ => by rcases hk with h_ | h_ <;> simp [Value.ownBlock] at e_ <;> omega)); have HNL := Aside0.mk (show some (wy.heap.size + 1) ≠ v48.ownBlock from fun e_ => by rcases hat with h_ | ⟨b_, h_, hle_⟩; (rw [h_] at e_; simp [Value.ownBlock] at e_ <;> omega); (rw [h_] at e_; injection e_ with e_; have hle_ : ((wy.alloc (.cells #[] 22)).alloc (.cells #[.slice At t.length ct] 22)).heap.size ≤ b_ := hle_; rw [alloc_size, alloc_size] at hle_; omega)); (try clear ho); (try clear hb); (try clear hg); (try clear hat))
         | (refine Kd.N_append_rows_step (Kd.slice 5 (Kd.int .u8)) (w0 := wy) wy.heap.size (by rfl) (.tmp 44) (.tmp 47) 23 22 (.slice none 0 0) 24 rfl Try.underlying23 info22_ rfl (by decide) (by omega) (.slice (some ⟨wy.heap.size + 1, 0, none⟩) 0 0) [] T1 _ T1.length cd (fun k_ => P0_ k_ ∨ w.heap.size ≤ k_) (fun k_ => (P0_ k_ ∨ w.heap.size ≤ k_) ∧ k_ < wy.heap.size) rfl rfl (Kd.N_drew ECA.out) (Kd.F_below HF1.out (below_drew (below_alloc (below_alloc (Below.refl wy.heap.size wy) _) _))) (fun k_ hk => ⟨hk.1, fun e_ => by simp [Value.ownBlock] at e_ <;> omega⟩) (fun k_ hk => .inr (Nat.le_trans hwy (Nat.le_trans (below_size (below_drew (below_alloc (below_alloc (Below.refl wy.heap.size wy) _) _))) hk))) (below_drew (below_alloc (below_alloc (Below.refl wy.heap.size wy) _) _)) (below_size (below_drew (below_alloc (below_alloc (Below.refl wy.heap.size wy) _) _))) (by simp only [List.length_nil]; omega) ?_; intro v48 w6 ho hb hg hat; have HN1 := Aside0.mk ho; have HB1 := Aside0.mk hb; have LN := Aside0.mk (Kd.N_grown LCA.out hg (fun k_ hk e_ => by rcases hk with h_ | h_ <;> simp [Value.ownBlock] at e_ <;> omega)); have HNL := Aside0.mk (show some (wy.heap.size) ≠ v48.ownBlock from fun e_ => by rcases hat with h_ | ⟨b_, h_, hle_⟩; (rw [h_] at e_; simp [Value.ownBlock] at e_ <;> omega); (rw [h_] at e_; injection e_ with e_; have hle_ : ((wy.alloc (.cells #[.slice At t.length ct] 22)).alloc (.cells #[] 22)).heap.size ≤ b_ := hle_; rw [alloc_size, alloc_size] at hle_; omega)); (try clear ho); (try clear hb); (try clear hg); (try clear hat))
         | (refine Kd.N_append_rows_step (Kd.slice 5 (Kd.int .u8)) (w0 := wy) wy.heap.size (by rfl) (.tmp 48) (.tmp 53) 23 22 (.slice none 0 0) 24 rfl Try.underlying23 info22_ rfl (by decide) (by omega) v48 ([] ++ T1) [t] (some ⟨w6.heap.size, 0, none⟩) 1 1 (fun k_ => P0_ k_ ∨ w.heap.size ≤ k_) (fun k_ => k_ = w6.heap.size ∨ P0_ k_ ∧ k_ < w.heap.size) rfl rfl (Kd.N_alloc HN1.out _) (Kd.N_F (N_lit_here (Kd.slice 5 (Kd.int .u8)) (W := w6) wy.heap.size 22 (xs := [t]) (inner := [.slice At t.length ct]) (ok := (fun k_ => k_ = w6.heap.size ∨ P0_ k_ ∧ k_ < w.heap.size)) (okp := fun k_ => P0_ k_ ∧ k_ < w.heap.size) (Reps.one (Kd.FK_slice_mk HL.out (Kd.F_below HFy.out HB1.out)) (Reps.none _ _)) (fun _ hk => .inr hk) (.inl rfl) HB1.out.size (by simp))) (fun k_ hk => by rcases hk with h_ | h_; (refine ⟨.inr (by have := HB1.out.size; omega), fun e_ => ?_⟩; subst h_; have := Kd.N_lt HN1.out _ e_.symm; omega); exact ⟨.inl h_.1, fun e_ => by have := Kd.N_base HN1.out k_ e_.symm; omega⟩) (fun k_ hk => .inr (Nat.le_trans hwy (Nat.le_trans (below_size (HB1.out.alloc HB1.out.size (.cells #[.slice At t.length ct] 22))) hk))) (HB1.out.alloc HB1.out.size (.cells #[.slice At t.length ct] 22)) (below_size (HB1.out.alloc HB1.out.size (.cells #[.slice At t.length ct] 22))) (by simp only [List.nil_append]; omega) ?_; intro v54 w7 ho hb hg hat; have HN2 := Aside0.mk ho; have HB2 := Aside0.mk hb; (try clear ho); (try clear hb); (try clear hg); (try clear hat))
         | (refine Kd.N_append_rows_step (Kd.slice 5 (Kd.int .u8)) (w0 := wy) wy.heap.size (by rfl) (.tmp 48) (.tmp 53) 23 22 (.slice none 0 0) 24 rfl Try.underlying23 info22_ rfl (by decide) (by omega) v48 ([] ++ T1) [t] (some ⟨wy.heap.size + 1, 0, none⟩) 1 1 (fun k_ => P0_ k_ ∨ w.heap.size ≤ k_) (fun k_ => k_ = wy.heap.size + 1 ∨ P0_ k_ ∧ k_ < w.heap.size) rfl rfl (HN1.out) (Kd.N_F LN.out) (fun k_ hk => by rcases hk with h_ | h_; (refine ⟨.inr (by have := HB1.out.size; omega), fun e_ => ?_⟩; subst h_; exact HNL.out e_); exact ⟨.inl h_.1, fun e_ => by have := Kd.N_base HN1.out k_ e_.symm; omega⟩) (fun k_ hk => .inr (Nat.le_trans hwy (Nat.le_trans (below_size HB1.out) hk))) HB1.out (below_size HB1.out) (by simp only [List.nil_append]; omega) ?_; intro v54 w7 ho hb hg hat; have HN2 := Aside0.mk ho; have HB2 := Aside0.mk hb; (try clear ho); (try clear hb); (try clear hg); (try clear hat))
         | (refine Kd.N_append_rows_step (Kd.slice 5 (Kd.int .u8)) (w0 := wy) wy.heap.size (by rfl) (.tmp 48) (.tmp 53) 23 22 (.slice none 0 0) 24 rfl Try.underlying23 info22_ rfl (by decide) (by omega) v48 ([] ++ T1) [t] (some ⟨wy.heap.size, 0, none⟩) 1 1 (fun k_ => P0_ k_ ∨ w.heap.size ≤ k_) (fun k_ => k_ = wy.heap.size ∨ P0_ k_ ∧ k_ < w.heap.size) rfl rfl (HN1.out) (Kd.N_F LN.out) (fun k_ hk => by rcases hk with h_ | h_; (refine ⟨.inr (by have := HB1.out.size; omega), fun e_ => ?_⟩; subst h_; exact HNL.out e_); exact ⟨.inl h_.1, fun e_ => by have := Kd.N_base HN1.out k_ e_.symm; omega⟩) (fun k_ hk => .inr (Nat.le_trans hwy (Nat.le_trans (below_size HB1.out) hk))) HB1.out (below_size HB1.out) (by simp only [List.nil_append]; omega) ?_; intro v54 w7 ho hb hg hat; have HN2 := Aside0.mk ho; have HB2 := Aside0.mk hb; (try clear ho); (try clear hb); (try clear hg); (try clear hat))
         | (refine Kd.N_append_rows_step (Kd.slice 5 (Kd.int .u8)) (w0 := wy) wy.heap.size (by rfl) (.tmp 54) (.tmp 57) 23 22 (.slice none 0 0) 24 rfl Try.underlying23 info22_ rfl (by decide) (by omega) v54 ([] ++ T1 ++ [t]) T2 _ T2.length (cd - q) (fun k_ => P0_ k_ ∨ w.heap.size ≤ k_) (fun k_ => (P0_ k_ ∨ w.heap.size ≤ k_) ∧ k_ < wy.heap.size) rfl rfl HN2.out (Kd.F_below HF2.out HB2.out) (fun k_ hk => ⟨hk.1, fun e_ => by have := Kd.N_base HN2.out k_ e_.symm; omega⟩) (fun k_ hk => .inr (Nat.le_trans hwy (Nat.le_trans (below_size HB2.out) hk))) HB2.out (below_size HB2.out) (by simp only [List.nil_append, List.length_append, List.length_cons, List.length_nil]; omega) ?_; intro v58 w8 ho hb hg hat; have HN3 := Aside0.mk ho; have HB3 := Aside0.mk hb; (try clear ho); (try clear hb); (try clear hg); (try clear hat)))
        all_goals go_wp2
        all_goals go_roundw
        all_goals first
         | exact ⟨j + 1, _, _, by omega, by go_num, rfl, AN, ⟨Kd.N_lower HN3.out hwy⟩, ⟨below_step HBz.out HB3.out⟩⟩
         | (simp [intOf]; omega)
       ·rw [if_neg hdl] at h; cases h
    ·have hQ := AQ.out
     rw [List.drop_eq_nil_of_le (by omega), sort_at] at hQ
     obtain rfl := Option.some.inj hQ
     have d1 : decide (q < d.length) = false := decide_eq_false hql
     have HD := Aside0.mk (Drawn0.step (Drawn0.refl wr) m1)
     clear hx hQ AQ
     generalize wr.drewN m1 = wv at HD ⊢
     go_wp2
     go_quiet (fail)
     go_wp2
     have HD2 := Aside0.mk (Drawn0.step HD.out nq)
     clear HD d1 hql hq
     generalize wv.drewN nq = wz at HD2 ⊢
     obtain ⟨mz, ez⟩ := HD2.out
     have HBz := Aside0.mk (show Below w.heap.size w wz by rw [ez]; exact drewN_below HB.out mz)
     have HNz := Aside0.mk (show Kd.N (Kd.slice 5 (Kd.int .u8)) 22 wz w.heap.size (fun k_ => (P0_ k_ ∨ w.heap.size ≤ k_)) _ d by rw [ez]; exact Kd.N_below HN.out (drewN_below (Below.refl _ _) mz))
     have hxz : wz.cell? (ad.add j) = some (.slice At t.length ct) := by rw [ez]; exact HXK.out
     have HIz := Aside0.mk (show Kd.C (Kd.int .u8) wz At t.length t by rw [ez]; exact Kd.C_drewN HI.out mz)
     have HRz := Aside0.mk (Kd.N_reads' HNz.out).2.2
     clear HD2 ez HB HN HI HXK HRD
     by_cases hQl : q < d.length
     ·obtain ⟨ad3, Av, cv, eAd, hy, hly, hiy⟩ := at_L1 HRz.out (q : Int) (by omega) (by omega)
      cases eAd
      have eB : rd_L1 d (q : Int) = d.getD q [] := rfl
      have h := AH.out
      rw [← eB] at h
      simp only [Int.toNat_natCast] at hy
      generalize rd_L1 d (q : Int) = y at hy hly hiy h
      have HIY := Aside0.mk hiy
      have HLY := Aside0.mk hly
      have d1 : decide (q < d.length) = true := decide_eq_true hQl
      clear hiy hly eB
      generalize hS : ((strOfNums y).toList == (strOfNums t).toList) = S at h
      have HSM := Aside0.mk (show tattingref1_Same.f y t = some S from congrArg some hS)
      clear hS
      cases S with
      | true =>
       rw [if_pos ⟨hQl, rfl⟩] at h
       have AN := Aside0.mk h
       clear h AH
       go_quiet (first | (go_at_call 38; refine Calls.quiet_of ((tattingref1_Same.calls _ _ y _ _ t true _ (Kd.C_drewN HIY.out _) HLY.out (Kd.C_drewN HIz.out _) HL.out HSM.out).mono (fun e w' hp => ⟨hp.1, hp.2.out⟩))))
       go_wp2
       go_roundw
       case rel => exact ⟨j + 1, d, _, by omega, by go_num, rfl, AN, ⟨Kd.N_below HNz.out (drewN_below (Below.refl _ _) nq)⟩, ⟨drewN_below HBz.out nq⟩⟩
       case measure => simp [intOf]; omega
      | false =>
       rw [if_neg (fun hh => by cases hh.2)] at h
       by_cases hdl : d.length < 100000000
       ·rw [if_pos hdl] at h
        have AN := Aside0.mk h
        clear h AH
        go_quiet (first | (go_at_call 38; refine Calls.quiet_of ((tattingref1_Same.calls _ _ y _ _ t false _ (Kd.C_drewN HIY.out _) HLY.out (Kd.C_drewN HIz.out _) HL.out HSM.out).mono (fun e w' hp => ⟨hp.1, hp.2.out⟩))))
        go_wp2
        clear hy HIY HLY HSM d1
        have n0_ := Aside0.mk (drewN_below HBz.out nq)
        have n1_ := Aside0.mk (Kd.N_below HNz.out (drewN_below (Below.refl wz.heap.size wz) nq))
        have n2_ : (wz.drewN nq).cell? (ad.add j) = some (.slice At t.length ct) := hxz
        clear HBz HNz hxz HIz HRz
        have HBz := n0_
        have HNz := n1_
        have hxz := n2_
        clear n0_ n1_ n2_
        generalize wz.drewN nq = wy at HBz HNz hxz ⊢
        have hxz1 : wy.drew.cell? (ad.add j) = some (.slice At t.length ct) := hxz
        have hxz2 : (wy.alloc (.cells #[] 22)).drew.cell? (ad.add j) = some (.slice At t.length ct) := cell_kept_alloc hxz _
        have hxz3 : (wy.alloc (.cells #[.slice At t.length ct] 22)).drew.cell? (ad.add j) = some (.slice At t.length ct) := cell_kept_alloc hxz _
        obtain ⟨hcutt, hct1, hctC⟩ := HCT.out q (by have := AQL.out; omega)
        obtain ⟨A3, hcute, hce1, hceC⟩ := HCE.out q (by have := AQL.out; omega)
        have HF1 := Aside0.mk (Kd.F_imp (Kd.F_bound (Kd.N_F HNz.out)) (fun W' hC => hctC W' hC))
        have HF2 := Aside0.mk (Kd.F_imp (Kd.F_bound (Kd.N_F HNz.out)) (fun W' hC => hceC W' hC))
        have hT1 : (d.take q).length ≤ d.length := by rw [List.length_take]; omega
        have hT2 : (d.drop q).length ≤ d.length := by rw [List.length_drop]; omega
        clear hctC hceC
        generalize d.take q = T1 at hcutt hct1 HF1 hT1 AN
        generalize d.drop q = T2 at hcute hce1 HF2 hT2 AN
        have HFy := Aside0.mk (Kd.F_below HFT.out HBz.out)
        have hwy := HBz.out.size
        have hsz : ∀ o : Obj, (wy.alloc o).heap.size = wy.heap.size + 1 := fun o => alloc_size wy o
        have hlt1 : t.length ≤ ct := HL.out
        have E0 := Aside0.mk (N_lit_here (Kd.slice 5 (Kd.int .u8)) (W := wy) wy.heap.size 22 (xs := []) (inner := []) (ok := (fun k_ => P0_ k_ ∨ w.heap.size ≤ k_)) (okp := fun _ => False) (Reps.none _ _) (fun _ hk => hk.elim) (.inr hwy) (Nat.le_refl _) (by simp))
        have ECA0 := N_lit_here (Kd.slice 5 (Kd.int .u8)) (W := wy.alloc (.cells #[.slice At t.length ct] 22)) wy.heap.size 22 (xs := []) (inner := []) (ok := (fun k_ => P0_ k_ ∨ w.heap.size ≤ k_)) (okp := fun _ => False) (Reps.none _ _) (fun _ hk => hk.elim) (.inr (by rw [hsz]; omega)) (by rw [hsz]; omega) (by simp)
        rw [hsz] at ECA0
        have ECA := Aside0.mk ECA0
        have LCA := Aside0.mk (Kd.N_drew (Kd.N_alloc (N_lit_here (Kd.slice 5 (Kd.int .u8)) (W := wy) wy.heap.size 22 (xs := [t]) (inner := [.slice At t.length ct]) (ok := (fun k_ => k_ = wy.heap.size ∨ P0_ k_ ∧ k_ < w.heap.size)) (okp := fun k_ => P0_ k_ ∧ k_ < w.heap.size) (Reps.one (Kd.FK_slice_mk HL.out HFy.out) (Reps.none _ _)) (fun _ hk => .inr hk) (.inl rfl) (Nat.le_refl _) (by simp)) (.cells #[] 22)))
        have LAC0 := N_lit_here (Kd.slice 5 (Kd.int .u8)) (W := wy.alloc (.cells #[] 22)) wy.heap.size 22 (xs := [t]) (inner := [.slice At t.length ct]) (ok := (fun k_ => k_ = wy.heap.size + 1 ∨ P0_ k_ ∧ k_ < w.heap.size)) (okp := fun k_ => P0_ k_ ∧ k_ < w.heap.size) (Reps.one (Kd.FK_slice_mk HL.out (Kd.F_alloc HFy.out _)) (Reps.none _ _)) (fun _ hk => .inr hk) (.inl (hsz _)) (by rw [hsz]; omega) (by simp)
        rw [hsz] at LAC0
        have LAC := Aside0.mk (Kd.N_drew LAC0)
        clear ECA0 LAC0
        go_region_held3 (fun w' => w'.cell? (ad.add j) = some (.slice At t.length ct)) (first | go_keep | exact pw_cell_below HB3.out hxz | exact pw_cell_below HB2.out hxz | exact cell_alloc_ (pw_cell_below HB1.out hxz) _ | exact pw_cell_below HB1.out hxz | exact hxz1 | exact hxz2 | exact hxz3 | exact cell_alloc2 hxz _ _) (first
         | (refine Kd.N_append_rows_step (Kd.slice 5 (Kd.int .u8)) (w0 := wy) wy.heap.size (by rfl) (.tmp 44) (.tmp 47) 23 22 (.slice none 0 0) 24 rfl Try.underlying23 info22_ rfl (by decide) (by omega) (.slice (some ⟨wy.heap.size, 0, none⟩) 0 0) [] T1 _ T1.length cd (fun k_ => P0_ k_ ∨ w.heap.size ≤ k_) (fun k_ => (P0_ k_ ∨ w.heap.size ≤ k_) ∧ k_ < wy.heap.size) rfl rfl (Kd.N_drew E0.out) (Kd.F_below HF1.out (below_drew (below_alloc (Below.refl wy.heap.size wy) _))) (fun k_ hk => ⟨hk.1, fun e_ => by simp [Value.ownBlock] at e_ <;> omega⟩) (fun k_ hk => .inr (Nat.le_trans hwy (Nat.le_trans (below_size (below_drew (below_alloc (Below.refl wy.heap.size wy) _))) hk))) (below_drew (below_alloc (Below.refl wy.heap.size wy) _)) (below_size (below_drew (below_alloc (Below.refl wy.heap.size wy) _))) (by simp only [List.length_nil]; omega) ?_; intro v48 w6 ho hb hg hat; have HN1 := Aside0.mk ho; have HB1 := Aside0.mk hb; (try clear ho); (try clear hb); (try clear hg); (try clear hat))
         | (refine Kd.N_append_rows_step (Kd.slice 5 (Kd.int .u8)) (w0 := wy) wy.heap.size (by rfl) (.tmp 44) (.tmp 47) 23 22 (.slice none 0 0) 24 rfl Try.underlying23 info22_ rfl (by decide) (by omega) (.slice (some ⟨wy.heap.size, 0, none⟩) 0 0) [] T1 _ T1.length cd (fun k_ => P0_ k_ ∨ w.heap.size ≤ k_) (fun k_ => (P0_ k_ ∨ w.heap.size ≤ k_) ∧ k_ < wy.heap.size) rfl rfl (Kd.N_drew (Kd.N_alloc E0.out _)) (Kd.F_below HF1.out (below_drew (below_alloc (below_alloc (Below.refl wy.heap.size wy) _) _))) (fun k_ hk => ⟨hk.1, fun e_ => by simp [Value.ownBlock] at e_ <;> omega⟩) (fun k_ hk => .inr (Nat.le_trans hwy (Nat.le_trans (below_size (below_drew (below_alloc (below_alloc (Below.refl wy.heap.size wy) _) _))) hk))) (below_drew (below_alloc (below_alloc (Below.refl wy.heap.size wy) _) _)) (below_size (below_drew (below_alloc (below_alloc (Below.refl wy.heap.size wy) _) _))) (by simp only [List.length_nil]; omega) ?_; intro v48 w6 ho hb hg hat; have HN1 := Aside0.mk ho; have HB1 := Aside0.mk hb; have LN := Aside0.mk (Kd.N_grown LAC.out hg (fun k_ hk e_ => by rcases hk with h_ | h_ <;> simp [Value.ownBlock] at e_ <;> omega)); have HNL := Aside0.mk (show some (wy.heap.size + 1) ≠ v48.ownBlock from fun e_ => by rcases hat with h_ | ⟨b_, h_, hle_⟩; (rw [h_] at e_; simp [Value.ownBlock] at e_ <;> omega); (rw [h_] at e_; injection e_ with e_; have hle_ : ((wy.alloc (.cells #[] 22)).alloc (.cells #[.slice At t.length ct] 22)).heap.size ≤ b_ := hle_; rw [alloc_size, alloc_size] at hle_; omega)); (try clear ho); (try clear hb); (try clear hg); (try clear hat))
         | (refine Kd.N_append_rows_step (Kd.slice 5 (Kd.int .u8)) (w0 := wy) wy.heap.size (by rfl) (.tmp 44) (.tmp 47) 23 22 (.slice none 0 0) 24 rfl Try.underlying23 info22_ rfl (by decide) (by omega) (.slice (some ⟨wy.heap.size + 1, 0, none⟩) 0 0) [] T1 _ T1.length cd (fun k_ => P0_ k_ ∨ w.heap.size ≤ k_) (fun k_ => (P0_ k_ ∨ w.heap.size ≤ k_) ∧ k_ < wy.heap.size) rfl rfl (Kd.N_drew ECA.out) (Kd.F_below HF1.out (below_drew (below_alloc (below_alloc (Below.refl wy.heap.size wy) _) _))) (fun k_ hk => ⟨hk.1, fun e_ => by simp [Value.ownBlock] at e_ <;> omega⟩) (fun k_ hk => .inr (Nat.le_trans hwy (Nat.le_trans (below_size (below_drew (below_alloc (below_alloc (Below.refl wy.heap.size wy) _) _))) hk))) (below_drew (below_alloc (below_alloc (Below.refl wy.heap.size wy) _) _)) (below_size (below_drew (below_alloc (below_alloc (Below.refl wy.heap.size wy) _) _))) (by simp only [List.length_nil]; omega) ?_; intro v48 w6 ho hb hg hat; have HN1 := Aside0.mk ho; have HB1 := Aside0.mk hb; have LN := Aside0.mk (Kd.N_grown LCA.out hg (fun k_ hk e_ => by rcases hk with h_ | h_ <;> simp [Value.ownBlock] at e_ <;> omega)); have HNL := Aside0.mk (show some (wy.heap.size) ≠ v48.ownBlock from fun e_ => by rcases hat with h_ | ⟨b_, h_, hle_⟩; (rw [h_] at e_; simp [Value.ownBlock] at e_ <;> omega); (rw [h_] at e_; injection e_ with e_; have hle_ : ((wy.alloc (.cells #[.slice At t.length ct] 22)).alloc (.cells #[] 22)).heap.size ≤ b_ := hle_; rw [alloc_size, alloc_size] at hle_; omega)); (try clear ho); (try clear hb); (try clear hg); (try clear hat))
         | (refine Kd.N_append_rows_step (Kd.slice 5 (Kd.int .u8)) (w0 := wy) wy.heap.size (by rfl) (.tmp 48) (.tmp 53) 23 22 (.slice none 0 0) 24 rfl Try.underlying23 info22_ rfl (by decide) (by omega) v48 ([] ++ T1) [t] (some ⟨w6.heap.size, 0, none⟩) 1 1 (fun k_ => P0_ k_ ∨ w.heap.size ≤ k_) (fun k_ => k_ = w6.heap.size ∨ P0_ k_ ∧ k_ < w.heap.size) rfl rfl (Kd.N_alloc HN1.out _) (Kd.N_F (N_lit_here (Kd.slice 5 (Kd.int .u8)) (W := w6) wy.heap.size 22 (xs := [t]) (inner := [.slice At t.length ct]) (ok := (fun k_ => k_ = w6.heap.size ∨ P0_ k_ ∧ k_ < w.heap.size)) (okp := fun k_ => P0_ k_ ∧ k_ < w.heap.size) (Reps.one (Kd.FK_slice_mk HL.out (Kd.F_below HFy.out HB1.out)) (Reps.none _ _)) (fun _ hk => .inr hk) (.inl rfl) HB1.out.size (by simp))) (fun k_ hk => by rcases hk with h_ | h_; (refine ⟨.inr (by have := HB1.out.size; omega), fun e_ => ?_⟩; subst h_; have := Kd.N_lt HN1.out _ e_.symm; omega); exact ⟨.inl h_.1, fun e_ => by have := Kd.N_base HN1.out k_ e_.symm; omega⟩) (fun k_ hk => .inr (Nat.le_trans hwy (Nat.le_trans (below_size (HB1.out.alloc HB1.out.size (.cells #[.slice At t.length ct] 22))) hk))) (HB1.out.alloc HB1.out.size (.cells #[.slice At t.length ct] 22)) (below_size (HB1.out.alloc HB1.out.size (.cells #[.slice At t.length ct] 22))) (by simp only [List.nil_append]; omega) ?_; intro v54 w7 ho hb hg hat; have HN2 := Aside0.mk ho; have HB2 := Aside0.mk hb; (try clear ho); (try clear hb); (try clear hg); (try clear hat))
         | (refine Kd.N_append_rows_step (Kd.slice 5 (Kd.int .u8)) (w0 := wy) wy.heap.size (by rfl) (.tmp 48) (.tmp 53) 23 22 (.slice none 0 0) 24 rfl Try.underlying23 info22_ rfl (by decide) (by omega) v48 ([] ++ T1) [t] (some ⟨wy.heap.size + 1, 0, none⟩) 1 1 (fun k_ => P0_ k_ ∨ w.heap.size ≤ k_) (fun k_ => k_ = wy.heap.size + 1 ∨ P0_ k_ ∧ k_ < w.heap.size) rfl rfl (HN1.out) (Kd.N_F LN.out) (fun k_ hk => by rcases hk with h_ | h_; (refine ⟨.inr (by have := HB1.out.size; omega), fun e_ => ?_⟩; subst h_; exact HNL.out e_); exact ⟨.inl h_.1, fun e_ => by have := Kd.N_base HN1.out k_ e_.symm; omega⟩) (fun k_ hk => .inr (Nat.le_trans hwy (Nat.le_trans (below_size HB1.out) hk))) HB1.out (below_size HB1.out) (by simp only [List.nil_append]; omega) ?_; intro v54 w7 ho hb hg hat; have HN2 := Aside0.mk ho; have HB2 := Aside0.mk hb; (try clear ho); (try clear hb); (try clear hg); (try clear hat))
         | (refine Kd.N_append_rows_step (Kd.slice 5 (Kd.int .u8)) (w0 := wy) wy.heap.size (by rfl) (.tmp 48) (.tmp 53) 23 22 (.slice none 0 0) 24 rfl Try.underlying23 info22_ rfl (by decide) (by omega) v48 ([] ++ T1) [t] (some ⟨wy.heap.size, 0, none⟩) 1 1 (fun k_ => P0_ k_ ∨ w.heap.size ≤ k_) (fun k_ => k_ = wy.heap.size ∨ P0_ k_ ∧ k_ < w.heap.size) rfl rfl (HN1.out) (Kd.N_F LN.out) (fun k_ hk => by rcases hk with h_ | h_; (refine ⟨.inr (by have := HB1.out.size; omega), fun e_ => ?_⟩; subst h_; exact HNL.out e_); exact ⟨.inl h_.1, fun e_ => by have := Kd.N_base HN1.out k_ e_.symm; omega⟩) (fun k_ hk => .inr (Nat.le_trans hwy (Nat.le_trans (below_size HB1.out) hk))) HB1.out (below_size HB1.out) (by simp only [List.nil_append]; omega) ?_; intro v54 w7 ho hb hg hat; have HN2 := Aside0.mk ho; have HB2 := Aside0.mk hb; (try clear ho); (try clear hb); (try clear hg); (try clear hat))
         | (refine Kd.N_append_rows_step (Kd.slice 5 (Kd.int .u8)) (w0 := wy) wy.heap.size (by rfl) (.tmp 54) (.tmp 57) 23 22 (.slice none 0 0) 24 rfl Try.underlying23 info22_ rfl (by decide) (by omega) v54 ([] ++ T1 ++ [t]) T2 _ T2.length (cd - q) (fun k_ => P0_ k_ ∨ w.heap.size ≤ k_) (fun k_ => (P0_ k_ ∨ w.heap.size ≤ k_) ∧ k_ < wy.heap.size) rfl rfl HN2.out (Kd.F_below HF2.out HB2.out) (fun k_ hk => ⟨hk.1, fun e_ => by have := Kd.N_base HN2.out k_ e_.symm; omega⟩) (fun k_ hk => .inr (Nat.le_trans hwy (Nat.le_trans (below_size HB2.out) hk))) HB2.out (below_size HB2.out) (by simp only [List.nil_append, List.length_append, List.length_cons, List.length_nil]; omega) ?_; intro v58 w8 ho hb hg hat; have HN3 := Aside0.mk ho; have HB3 := Aside0.mk hb; (try clear ho); (try clear hb); (try clear hg); (try clear hat)))
        all_goals go_wp2
        all_goals go_roundw
        all_goals first
         | exact ⟨j + 1, _, _, by omega, by go_num, rfl, AN, ⟨Kd.N_lower HN3.out hwy⟩, ⟨below_step HBz.out HB3.out⟩⟩
         | (simp [intOf]; omega)
       ·rw [if_neg hdl] at h; cases h
     ·have d1 : decide (q < d.length) = false := decide_eq_false hQl
      have h := AH.out
      rw [if_neg (fun hh => hQl hh.1)] at h
      by_cases hdl : d.length < 100000000
      ·rw [if_pos hdl] at h
       have AN := Aside0.mk h
       clear h AH
       go_quiet (fail)
       go_wp2
       clear d1
       have n0_ := Aside0.mk (drewN_below HBz.out nq)
       have n1_ := Aside0.mk (Kd.N_below HNz.out (drewN_below (Below.refl wz.heap.size wz) nq))
       have n2_ : (wz.drewN nq).cell? (ad.add j) = some (.slice At t.length ct) := hxz
       clear HBz HNz hxz HIz HRz
       have HBz := n0_
       have HNz := n1_
       have hxz := n2_
       clear n0_ n1_ n2_
       generalize wz.drewN nq = wy at HBz HNz hxz ⊢
       have hxz1 : wy.drew.cell? (ad.add j) = some (.slice At t.length ct) := hxz
       have hxz2 : (wy.alloc (.cells #[] 22)).drew.cell? (ad.add j) = some (.slice At t.length ct) := cell_kept_alloc hxz _
       have hxz3 : (wy.alloc (.cells #[.slice At t.length ct] 22)).drew.cell? (ad.add j) = some (.slice At t.length ct) := cell_kept_alloc hxz _
       obtain ⟨hcutt, hct1, hctC⟩ := HCT.out q (by have := AQL.out; omega)
       obtain ⟨A3, hcute, hce1, hceC⟩ := HCE.out q (by have := AQL.out; omega)
       have HF1 := Aside0.mk (Kd.F_imp (Kd.F_bound (Kd.N_F HNz.out)) (fun W' hC => hctC W' hC))
       have HF2 := Aside0.mk (Kd.F_imp (Kd.F_bound (Kd.N_F HNz.out)) (fun W' hC => hceC W' hC))
       have hT1 : (d.take q).length ≤ d.length := by rw [List.length_take]; omega
       have hT2 : (d.drop q).length ≤ d.length := by rw [List.length_drop]; omega
       clear hctC hceC
       generalize d.take q = T1 at hcutt hct1 HF1 hT1 AN
       generalize d.drop q = T2 at hcute hce1 HF2 hT2 AN
       have HFy := Aside0.mk (Kd.F_below HFT.out HBz.out)
       have hwy := HBz.out.size
       have hsz : ∀ o : Obj, (wy.alloc o).heap.size = wy.heap.size + 1 := fun o => alloc_size wy o
       have hlt1 : t.length ≤ ct := HL.out
       have E0 := Aside0.mk (N_lit_here (Kd.slice 5 (Kd.int .u8)) (W := wy) wy.heap.size 22 (xs := []) (inner := []) (ok := (fun k_ => P0_ k_ ∨ w.heap.size ≤ k_)) (okp := fun _ => False) (Reps.none _ _) (fun _ hk => hk.elim) (.inr hwy) (Nat.le_refl _) (by simp))
       have ECA0 := N_lit_here (Kd.slice 5 (Kd.int .u8)) (W := wy.alloc (.cells #[.slice At t.length ct] 22)) wy.heap.size 22 (xs := []) (inner := []) (ok := (fun k_ => P0_ k_ ∨ w.heap.size ≤ k_)) (okp := fun _ => False) (Reps.none _ _) (fun _ hk => hk.elim) (.inr (by rw [hsz]; omega)) (by rw [hsz]; omega) (by simp)
       rw [hsz] at ECA0
       have ECA := Aside0.mk ECA0
       have LCA := Aside0.mk (Kd.N_drew (Kd.N_alloc (N_lit_here (Kd.slice 5 (Kd.int .u8)) (W := wy) wy.heap.size 22 (xs := [t]) (inner := [.slice At t.length ct]) (ok := (fun k_ => k_ = wy.heap.size ∨ P0_ k_ ∧ k_ < w.heap.size)) (okp := fun k_ => P0_ k_ ∧ k_ < w.heap.size) (Reps.one (Kd.FK_slice_mk HL.out HFy.out) (Reps.none _ _)) (fun _ hk => .inr hk) (.inl rfl) (Nat.le_refl _) (by simp)) (.cells #[] 22)))
       have LAC0 := N_lit_here (Kd.slice 5 (Kd.int .u8)) (W := wy.alloc (.cells #[] 22)) wy.heap.size 22 (xs := [t]) (inner := [.slice At t.length ct]) (ok := (fun k_ => k_ = wy.heap.size + 1 ∨ P0_ k_ ∧ k_ < w.heap.size)) (okp := fun k_ => P0_ k_ ∧ k_ < w.heap.size) (Reps.one (Kd.FK_slice_mk HL.out (Kd.F_alloc HFy.out _)) (Reps.none _ _)) (fun _ hk => .inr hk) (.inl (hsz _)) (by rw [hsz]; omega) (by simp)
       rw [hsz] at LAC0
       have LAC := Aside0.mk (Kd.N_drew LAC0)
       clear ECA0 LAC0
       go_region_held3 (fun w' => w'.cell? (ad.add j) = some (.slice At t.length ct)) (first | go_keep | exact pw_cell_below HB3.out hxz | exact pw_cell_below HB2.out hxz | exact cell_alloc_ (pw_cell_below HB1.out hxz) _ | exact pw_cell_below HB1.out hxz | exact hxz1 | exact hxz2 | exact hxz3 | exact cell_alloc2 hxz _ _) (first
        | (refine Kd.N_append_rows_step (Kd.slice 5 (Kd.int .u8)) (w0 := wy) wy.heap.size (by rfl) (.tmp 44) (.tmp 47) 23 22 (.slice none 0 0) 24 rfl Try.underlying23 info22_ rfl (by decide) (by omega) (.slice (some ⟨wy.heap.size, 0, none⟩) 0 0) [] T1 _ T1.length cd (fun k_ => P0_ k_ ∨ w.heap.size ≤ k_) (fun k_ => (P0_ k_ ∨ w.heap.size ≤ k_) ∧ k_ < wy.heap.size) rfl rfl (Kd.N_drew E0.out) (Kd.F_below HF1.out (below_drew (below_alloc (Below.refl wy.heap.size wy) _))) (fun k_ hk => ⟨hk.1, fun e_ => by simp [Value.ownBlock] at e_ <;> omega⟩) (fun k_ hk => .inr (Nat.le_trans hwy (Nat.le_trans (below_size (below_drew (below_alloc (Below.refl wy.heap.size wy) _))) hk))) (below_drew (below_alloc (Below.refl wy.heap.size wy) _)) (below_size (below_drew (below_alloc (Below.refl wy.heap.size wy) _))) (by simp only [List.length_nil]; omega) ?_; intro v48 w6 ho hb hg hat; have HN1 := Aside0.mk ho; have HB1 := Aside0.mk hb; (try clear ho); (try clear hb); (try clear hg); (try clear hat))
        | (refine Kd.N_append_rows_step (Kd.slice 5 (Kd.int .u8)) (w0 := wy) wy.heap.size (by rfl) (.tmp 44) (.tmp 47) 23 22 (.slice none 0 0) 24 rfl Try.underlying23 info22_ rfl (by decide) (by omega) (.slice (some ⟨wy.heap.size, 0, none⟩) 0 0) [] T1 _ T1.length cd (fun k_ => P0_ k_ ∨ w.heap.size ≤ k_) (fun k_ => (P0_ k_ ∨ w.heap.size ≤ k_) ∧ k_ < wy.heap.size) rfl rfl (Kd.N_drew (Kd.N_alloc E0.out _)) (Kd.F_below HF1.out (below_drew (below_alloc (below_alloc (Below.refl wy.heap.size wy) _) _))) (fun k_ hk => ⟨hk.1, fun e_ => by simp [Value.ownBlock] at e_ <;> omega⟩) (fun k_ hk => .inr (Nat.le_trans hwy (Nat.le_trans (below_size (below_drew (below_alloc (below_alloc (Below.refl wy.heap.size wy) _) _))) hk))) (below_drew (below_alloc (below_alloc (Below.refl wy.heap.size wy) _) _)) (below_size (below_drew (below_alloc (below_alloc (Below.refl wy.heap.size wy) _) _))) (by simp only [List.length_nil]; omega) ?_; intro v48 w6 ho hb hg hat; have HN1 := Aside0.mk ho; have HB1 := Aside0.mk hb; have LN := Aside0.mk (Kd.N_grown LAC.out hg (fun k_ hk e_ => by rcases hk with h_ | h_ <;> simp [Value.ownBlock] at e_ <;> omega)); have HNL := Aside0.mk (show some (wy.heap.size + 1) ≠ v48.ownBlock from fun e_ => by rcases hat with h_ | ⟨b_, h_, hle_⟩; (rw [h_] at e_; simp [Value.ownBlock] at e_ <;> omega); (rw [h_] at e_; injection e_ with e_; have hle_ : ((wy.alloc (.cells #[] 22)).alloc (.cells #[.slice At t.length ct] 22)).heap.size ≤ b_ := hle_; rw [alloc_size, alloc_size] at hle_; omega)); (try clear ho); (try clear hb); (try clear hg); (try clear hat))
        | (refine Kd.N_append_rows_step (Kd.slice 5 (Kd.int .u8)) (w0 := wy) wy.heap.size (by rfl) (.tmp 44) (.tmp 47) 23 22 (.slice none 0 0) 24 rfl Try.underlying23 info22_ rfl (by decide) (by omega) (.slice (some ⟨wy.heap.size + 1, 0, none⟩) 0 0) [] T1 _ T1.length cd (fun k_ => P0_ k_ ∨ w.heap.size ≤ k_) (fun k_ => (P0_ k_ ∨ w.heap.size ≤ k_) ∧ k_ < wy.heap.size) rfl rfl (Kd.N_drew ECA.out) (Kd.F_below HF1.out (below_drew (below_alloc (below_alloc (Below.refl wy.heap.size wy) _) _))) (fun k_ hk => ⟨hk.1, fun e_ => by simp [Value.ownBlock] at e_ <;> omega⟩) (fun k_ hk => .inr (Nat.le_trans hwy (Nat.le_trans (below_size (below_drew (below_alloc (below_alloc (Below.refl wy.heap.size wy) _) _))) hk))) (below_drew (below_alloc (below_alloc (Below.refl wy.heap.size wy) _) _)) (below_size (below_drew (below_alloc (below_alloc (Below.refl wy.heap.size wy) _) _))) (by simp only [List.length_nil]; omega) ?_; intro v48 w6 ho hb hg hat; have HN1 := Aside0.mk ho; have HB1 := Aside0.mk hb; have LN := Aside0.mk (Kd.N_grown LCA.out hg (fun k_ hk e_ => by rcases hk with h_ | h_ <;> simp [Value.ownBlock] at e_ <;> omega)); have HNL := Aside0.mk (show some (wy.heap.size) ≠ v48.ownBlock from fun e_ => by rcases hat with h_ | ⟨b_, h_, hle_⟩; (rw [h_] at e_; simp [Value.ownBlock] at e_ <;> omega); (rw [h_] at e_; injection e_ with e_; have hle_ : ((wy.alloc (.cells #[.slice At t.length ct] 22)).alloc (.cells #[] 22)).heap.size ≤ b_ := hle_; rw [alloc_size, alloc_size] at hle_; omega)); (try clear ho); (try clear hb); (try clear hg); (try clear hat))
        | (refine Kd.N_append_rows_step (Kd.slice 5 (Kd.int .u8)) (w0 := wy) wy.heap.size (by rfl) (.tmp 48) (.tmp 53) 23 22 (.slice none 0 0) 24 rfl Try.underlying23 info22_ rfl (by decide) (by omega) v48 ([] ++ T1) [t] (some ⟨w6.heap.size, 0, none⟩) 1 1 (fun k_ => P0_ k_ ∨ w.heap.size ≤ k_) (fun k_ => k_ = w6.heap.size ∨ P0_ k_ ∧ k_ < w.heap.size) rfl rfl (Kd.N_alloc HN1.out _) (Kd.N_F (N_lit_here (Kd.slice 5 (Kd.int .u8)) (W := w6) wy.heap.size 22 (xs := [t]) (inner := [.slice At t.length ct]) (ok := (fun k_ => k_ = w6.heap.size ∨ P0_ k_ ∧ k_ < w.heap.size)) (okp := fun k_ => P0_ k_ ∧ k_ < w.heap.size) (Reps.one (Kd.FK_slice_mk HL.out (Kd.F_below HFy.out HB1.out)) (Reps.none _ _)) (fun _ hk => .inr hk) (.inl rfl) HB1.out.size (by simp))) (fun k_ hk => by rcases hk with h_ | h_; (refine ⟨.inr (by have := HB1.out.size; omega), fun e_ => ?_⟩; subst h_; have := Kd.N_lt HN1.out _ e_.symm; omega); exact ⟨.inl h_.1, fun e_ => by have := Kd.N_base HN1.out k_ e_.symm; omega⟩) (fun k_ hk => .inr (Nat.le_trans hwy (Nat.le_trans (below_size (HB1.out.alloc HB1.out.size (.cells #[.slice At t.length ct] 22))) hk))) (HB1.out.alloc HB1.out.size (.cells #[.slice At t.length ct] 22)) (below_size (HB1.out.alloc HB1.out.size (.cells #[.slice At t.length ct] 22))) (by simp only [List.nil_append]; omega) ?_; intro v54 w7 ho hb hg hat; have HN2 := Aside0.mk ho; have HB2 := Aside0.mk hb; (try clear ho); (try clear hb); (try clear hg); (try clear hat))
        | (refine Kd.N_append_rows_step (Kd.slice 5 (Kd.int .u8)) (w0 := wy) wy.heap.size (by rfl) (.tmp 48) (.tmp 53) 23 22 (.slice none 0 0) 24 rfl Try.underlying23 info22_ rfl (by decide) (by omega) v48 ([] ++ T1) [t] (some ⟨wy.heap.size + 1, 0, none⟩) 1 1 (fun k_ => P0_ k_ ∨ w.heap.size ≤ k_) (fun k_ => k_ = wy.heap.size + 1 ∨ P0_ k_ ∧ k_ < w.heap.size) rfl rfl (HN1.out) (Kd.N_F LN.out) (fun k_ hk => by rcases hk with h_ | h_; (refine ⟨.inr (by have := HB1.out.size; omega), fun e_ => ?_⟩; subst h_; exact HNL.out e_); exact ⟨.inl h_.1, fun e_ => by have := Kd.N_base HN1.out k_ e_.symm; omega⟩) (fun k_ hk => .inr (Nat.le_trans hwy (Nat.le_trans (below_size HB1.out) hk))) HB1.out (below_size HB1.out) (by simp only [List.nil_append]; omega) ?_; intro v54 w7 ho hb hg hat; have HN2 := Aside0.mk ho; have HB2 := Aside0.mk hb; (try clear ho); (try clear hb); (try clear hg); (try clear hat))
        | (refine Kd.N_append_rows_step (Kd.slice 5 (Kd.int .u8)) (w0 := wy) wy.heap.size (by rfl) (.tmp 48) (.tmp 53) 23 22 (.slice none 0 0) 24 rfl Try.underlying23 info22_ rfl (by decide) (by omega) v48 ([] ++ T1) [t] (some ⟨wy.heap.size, 0, none⟩) 1 1 (fun k_ => P0_ k_ ∨ w.heap.size ≤ k_) (fun k_ => k_ = wy.heap.size ∨ P0_ k_ ∧ k_ < w.heap.size) rfl rfl (HN1.out) (Kd.N_F LN.out) (fun k_ hk => by rcases hk with h_ | h_; (refine ⟨.inr (by have := HB1.out.size; omega), fun e_ => ?_⟩; subst h_; exact HNL.out e_); exact ⟨.inl h_.1, fun e_ => by have := Kd.N_base HN1.out k_ e_.symm; omega⟩) (fun k_ hk => .inr (Nat.le_trans hwy (Nat.le_trans (below_size HB1.out) hk))) HB1.out (below_size HB1.out) (by simp only [List.nil_append]; omega) ?_; intro v54 w7 ho hb hg hat; have HN2 := Aside0.mk ho; have HB2 := Aside0.mk hb; (try clear ho); (try clear hb); (try clear hg); (try clear hat))
        | (refine Kd.N_append_rows_step (Kd.slice 5 (Kd.int .u8)) (w0 := wy) wy.heap.size (by rfl) (.tmp 54) (.tmp 57) 23 22 (.slice none 0 0) 24 rfl Try.underlying23 info22_ rfl (by decide) (by omega) v54 ([] ++ T1 ++ [t]) T2 _ T2.length (cd - q) (fun k_ => P0_ k_ ∨ w.heap.size ≤ k_) (fun k_ => (P0_ k_ ∨ w.heap.size ≤ k_) ∧ k_ < wy.heap.size) rfl rfl HN2.out (Kd.F_below HF2.out HB2.out) (fun k_ hk => ⟨hk.1, fun e_ => by have := Kd.N_base HN2.out k_ e_.symm; omega⟩) (fun k_ hk => .inr (Nat.le_trans hwy (Nat.le_trans (below_size HB2.out) hk))) HB2.out (below_size HB2.out) (by simp only [List.nil_append, List.length_append, List.length_cons, List.length_nil]; omega) ?_; intro v58 w8 ho hb hg hat; have HN3 := Aside0.mk ho; have HB3 := Aside0.mk hb; (try clear ho); (try clear hb); (try clear hg); (try clear hat)))
       all_goals go_wp2
       all_goals go_roundw
       all_goals first
        | exact ⟨j + 1, _, _, by omega, by go_num, rfl, AN, ⟨Kd.N_lower HN3.out hwy⟩, ⟨below_step HBz.out HB3.out⟩⟩
        | (simp [intOf]; omega)
      ·rw [if_neg hdl] at h; cases h
  ·obtain rfl : j = l0.length := by omega
   have h := H.out
   rw [List.drop_length, tattingref1_Sort.l0] at h
   obtain rfl := Option.some.inj h
   go_wp2
   go_ret
   exact ⟨_, rfl, HN.out, HB.out⟩

/-! ### tattingref1_Find: function 39 -/
def tattingref1_Find.l0 : Nat → List (List Int) → List Int → Int → Option (Int × Bool)
 | 0, _, _, _ => none
 | k + 1, x0, x1, x6 => if x6 < (x0.length : Int) then (if 0 ≤ x6 then ((tattingref1_Same.f (rd_L1 x0 x6) x1).bind fun t222 => (if t222 = true then (some (x6, true)) else (tattingref1_Find.l0 k x0 x1 (wrap64 (x6 + 1))))) else (none)) else (some (0, false))
def tattingref1_Find.f (k : Nat) (l0 : List (List Int)) (l1 : List Int) : Option (Int × Bool) := tattingref1_Find.l0 k l0 l1 0
theorem tattingref1_Find.mono_l : ∀ k, (∀ y0 y1 y2, LeO (tattingref1_Find.l0 k y0 y1 y2) (tattingref1_Find.l0 (k + 1) y0 y1 y2))
 | 0 => fun _ _ _ r h => by simp [tattingref1_Find.l0] at h
 | k + 1 => by
  have ih0 := tattingref1_Find.mono_l k
  ·intro y0 y1 y2
   unfold tattingref1_Find.l0
   repeat' first
   | (with_reducible exact ih0 _ _ _)
   | (with_reducible exact LeO.refl _)
   | (with_reducible exact LeO.none _)
   | (with_reducible refine LeO.ite ?_ ?_)
   | (with_reducible refine LeO.bind ?_ (fun _ => ?_))
   | exact ih0 _ _ _
   | exact LeO.none _
   | refine LeO.ite ?_ ?_
   | refine LeO.bind ?_ (fun _ => ?_)
theorem tattingref1_Find.mono : ∀ a0 a1 k, LeO (tattingref1_Find.f k a0 a1) (tattingref1_Find.f (k + 1) a0 a1) := by
 intro a0 a1 k
 have ih0 := tattingref1_Find.mono_l k
 unfold tattingref1_Find.f
 repeat' first
   | (with_reducible exact ih0 _ _ _)
   | (with_reducible exact LeO.refl _)
   | (with_reducible exact LeO.none _)
   | (with_reducible refine LeO.ite ?_ ?_)
   | (with_reducible refine LeO.bind ?_ (fun _ => ?_))
   | exact ih0 _ _ _
   | exact LeO.none _
   | refine LeO.ite ?_ ?_
   | refine LeO.bind ?_ (fun _ => ?_)
set_option maxHeartbeats 8000000 in
set_option maxRecDepth 100000 in
theorem tattingref1_Find.calls (k : Nat) (A0 : Option Addr) (c0 : Nat) (l0 : List (List Int)) (A1 : Option Addr) (c1 : Nat) (l1 : List Int) (r1 : Int) (r2 : Bool) (w : World) (hr0 : Kd.C (Kd.slice 5 (Kd.int .u8)) w A0 l0.length l0) (hc0 : l0.length ≤ c0) (hr1 : Kd.C (Kd.int .u8) w A1 l1.length l1) (hc1 : l1.length ≤ c1) (h : tattingref1_Find.f k l0 l1 = some (r1, r2)) :
  Calls Try.prog 39 #[.slice A0 l0.length c0, .slice A1 l1.length c1] w fun e w' => e = .returned (.tuple #[.int .i64 r1, .bool r2]) ∧ Drawn0 w w' := by
 have HR0 := Aside0.mk hr0
 have HC0 := Aside0.mk hc0
 clear hr0 hc0
 have HR1 := Aside0.mk hr1
 have HC1 := Aside0.mk hc1
 clear hr1 hc1
 have H : (tattingref1_Find.l0 k l0 l1 0) = some (r1, r2) := h
 clear h
 have H' := Aside0.mk H
 clear H
 go_enter Try.func39, Try.ntmps39
 go_wp2
 go_loopg [6] k (fun kq v6 w' => ∃ (x6_1 : Int), v6 = .int .i64 x6_1 ∧ Aside0 (tattingref1_Find.l0 kq l0 l1 x6_1 = some (r1, r2)) ∧ Aside0 (kq ≤ k) ∧ Drawn0 w w')
 case atStart => exact ⟨(0), (by first | rfl | (simp; done) | (simp [*]; done)), H', ⟨Nat.le_refl _⟩, by repeat (first | exact Drawn0.refl _ | apply Drawn0.step)⟩
 case round =>
  clear H'
  try clear c1
  try clear p2
  obtain ⟨x6_1, rfl, HA, HK1, ⟨m1, rfl⟩⟩ := hrel
  cases gk with
  | zero => exact absurd HA.out (by simp [tattingref1_Find.l0])
  | succ k1 =>
   have H := HA.out
   clear HA
   simp only [tattingref1_Find.l0] at H
   by_cases c3 : x6_1 < (l0.length : Int)
   ·rw [if_pos c3] at H
    have c3b0 : decide (x6_1 < (l0.length : Int)) = true := decide_eq_true c3
    clear c3
    by_cases c4 : 0 ≤ x6_1
    ·rw [if_pos c4] at H
     have c4b0 : decide (0 ≤ x6_1) = true := decide_eq_true c4
     clear c4
     replace H := Option.bind_eq_some_iff.mp H
     obtain ⟨t222, A50, H⟩ := H
     replace H : (if t222 = true then (some (x6_1, true)) else (tattingref1_Find.l0 k1 l0 l1 (wrap64 (x6_1 + 1)))) = some (r1, r2) := H
     have A5 := Aside0.mk A50
     clear A50
     by_cases c6 : t222 = true
     ·subst c6
      have H1 : (some (x6_1, true)) = some (r1, r2) := by rw [if_pos rfl] at H; exact H
      clear H
      have H := H1
      clear H1
      simp only [Option.some.injEq, Prod.mk.injEq] at H
      obtain ⟨rfl, rfl⟩ := H
      have p221 : 0 ≤ (x6_1 : Int) := of_decide_eq_true (by first | (with_reducible assumption) | assumption)
      have q221 : x6_1 < (l0.length : Int) := of_decide_eq_true (by first | (with_reducible assumption) | assumption)
      obtain ⟨ad221, A221_0, c221_0, e221, hx221_0, hl221_0, hi221_0⟩ := at_L1 HR0.out x6_1 p221 q221
      cases e221
      have HR221_0 := Aside0.mk hi221_0
      have HC221_0 := Aside0.mk hl221_0
      clear hi221_0 hl221_0
      replace p221 := eq_true p221
      replace q221 := eq_true q221
      go_wp2_with (first | ((first | (with_reducible refine gate_callee (f := 38) rfl ?_); refine goesL_ (some 18) rfl rfl Try.func38 (by kernel_rfl) rfl #[.slice A221_0 (rd_L1 l0 x6_1).length c221_0, .slice A1 l1.length c1] rfl (by (try simp only [List.map_toArray, List.map_cons, List.map_nil]); first | done | rfl | (simp only [List.length_drop, List.length_take]; rfl)) ?_ | go_at_call 38); (with_reducible refine (tattingref1_Same.calls _ _ (rd_L1 l0 x6_1) _ _ l1 true _ ?side1 ?side2 ?side3 ?side4 A5.out).mono ?_); (case side1 => repeat (first | exact HR221_0.out | (with_reducible refine Kd.C_alloc ?_ _) | (with_reducible refine Kd.C_drewN ?_ _) | (with_reducible refine Kd.C_drew ?_))); (case side2 => exact HC221_0.out); (case side3 => repeat (first | exact HR1.out | (with_reducible refine Kd.C_alloc ?_ _) | (with_reducible refine Kd.C_drewN ?_ _) | (with_reducible refine Kd.C_drew ?_))); (case side4 => exact HC1.out); rintro e w' ⟨rfl, ⟨nd, rfl⟩⟩; (try refine ⟨_, rfl, ?_⟩)))
      go_ret2
      exact ⟨by first | rfl | (simp; done) | (simp [*]; done), by repeat (first | exact Drawn0.refl _ | apply Drawn0.step)⟩
     ·replace c6 := Bool.eq_false_iff.mpr c6
      subst c6
      have H1 : (tattingref1_Find.l0 k1 l0 l1 (wrap64 (x6_1 + 1))) = some (r1, r2) := by rw [if_neg (show ¬ (false = true) by decide)] at H; exact H
      clear H
      have H := H1
      clear H1
      have H' := Aside0.mk H
      clear H
      have p221 : 0 ≤ (x6_1 : Int) := of_decide_eq_true (by first | (with_reducible assumption) | assumption)
      have q221 : x6_1 < (l0.length : Int) := of_decide_eq_true (by first | (with_reducible assumption) | assumption)
      obtain ⟨ad221, A221_0, c221_0, e221, hx221_0, hl221_0, hi221_0⟩ := at_L1 HR0.out x6_1 p221 q221
      cases e221
      have HR221_0 := Aside0.mk hi221_0
      have HC221_0 := Aside0.mk hl221_0
      clear hi221_0 hl221_0
      replace p221 := eq_true p221
      replace q221 := eq_true q221
      go_wp2_with (first | ((first | (with_reducible refine gate_callee (f := 38) rfl ?_); refine goesL_ (some 18) rfl rfl Try.func38 (by kernel_rfl) rfl #[.slice A221_0 (rd_L1 l0 x6_1).length c221_0, .slice A1 l1.length c1] rfl (by (try simp only [List.map_toArray, List.map_cons, List.map_nil]); first | done | rfl | (simp only [List.length_drop, List.length_take]; rfl)) ?_ | go_at_call 38); (with_reducible refine (tattingref1_Same.calls _ _ (rd_L1 l0 x6_1) _ _ l1 false _ ?side1 ?side2 ?side3 ?side4 A5.out).mono ?_); (case side1 => repeat (first | exact HR221_0.out | (with_reducible refine Kd.C_alloc ?_ _) | (with_reducible refine Kd.C_drewN ?_ _) | (with_reducible refine Kd.C_drew ?_))); (case side2 => exact HC221_0.out); (case side3 => repeat (first | exact HR1.out | (with_reducible refine Kd.C_alloc ?_ _) | (with_reducible refine Kd.C_drewN ?_ _) | (with_reducible refine Kd.C_drew ?_))); (case side4 => exact HC1.out); rintro e w' ⟨rfl, ⟨nd, rfl⟩⟩; (try refine ⟨_, rfl, ?_⟩)))
      go_roundg k1
      case measure => have := HK1.out; omega
      case rel => exact ⟨(wrap64 (x6_1 + 1)), (by first | rfl | (simp; done) | (simp [*]; done)), H', ⟨by have := HK1.out; omega⟩, by repeat (first | exact Drawn0.refl _ | apply Drawn0.step)⟩
    ·rw [if_neg c4] at H
     exact absurd H (by simp)
   ·rw [if_neg c3] at H
    have c3b0 : decide (x6_1 < (l0.length : Int)) = false := decide_eq_false c3
    clear c3
    simp only [Option.some.injEq, Prod.mk.injEq] at H
    obtain ⟨rfl, rfl⟩ := H
    go_wp2
    go_ret2
    exact ⟨by first | rfl | (simp; done) | (simp [*]; done), by repeat (first | exact Drawn0.refl _ | apply Drawn0.step)⟩

/-! ### tattingref1_Ids: function 28 -/
def tattingref1_Ids.l0 : Nat → List (List Int) → List (List Int) → List Int → Int → Option (List Int × Bool)
 | 0, _, _, _, _ => none
 | k + 1, x0, x1, x6, x7 => if x7 < (x1.length : Int) then (if 0 ≤ x7 then ((tattingref1_Find.f k x0 (rd_L1 x1 x7)).bind fun bt224 => (if bt224.2 = true then (if x6.length < 17592186044416 then (tattingref1_Ids.l0 k x0 x1 (x6 ++ [bt224.1]) (wrap64 (x7 + 1))) else (none)) else (some (([] : List Int), false)))) else (none)) else (some (x6, true))
def tattingref1_Ids.f (k : Nat) (l0 : List (List Int)) (l1 : List (List Int)) : Option (List Int × Bool) := tattingref1_Ids.l0 k l0 l1 ([] : List Int) 0
theorem tattingref1_Ids.mono_l : ∀ k, (∀ y0 y1 y2 y3, LeO (tattingref1_Ids.l0 k y0 y1 y2 y3) (tattingref1_Ids.l0 (k + 1) y0 y1 y2 y3))
 | 0 => fun _ _ _ _ r h => by simp [tattingref1_Ids.l0] at h
 | k + 1 => by
  have ih0 := tattingref1_Ids.mono_l k
  ·intro y0 y1 y2 y3
   unfold tattingref1_Ids.l0
   repeat' first
   | (with_reducible exact ih0 _ _ _ _)
   | (with_reducible exact tattingref1_Find.mono _ _ _)
   | (with_reducible exact LeO.refl _)
   | (with_reducible exact LeO.none _)
   | (with_reducible refine LeO.ite ?_ ?_)
   | (with_reducible refine LeO.bind ?_ (fun _ => ?_))
   | exact ih0 _ _ _ _
   | exact tattingref1_Find.mono _ _ _
   | exact LeO.none _
   | refine LeO.ite ?_ ?_
   | refine LeO.bind ?_ (fun _ => ?_)
theorem tattingref1_Ids.mono : ∀ a0 a1 k, LeO (tattingref1_Ids.f k a0 a1) (tattingref1_Ids.f (k + 1) a0 a1) := by
 intro a0 a1 k
 have ih0 := tattingref1_Ids.mono_l k
 unfold tattingref1_Ids.f
 repeat' first
   | (with_reducible exact ih0 _ _ _ _)
   | (with_reducible exact tattingref1_Find.mono _ _ _)
   | (with_reducible exact LeO.refl _)
   | (with_reducible exact LeO.none _)
   | (with_reducible refine LeO.ite ?_ ?_)
   | (with_reducible refine LeO.bind ?_ (fun _ => ?_))
   | exact ih0 _ _ _ _
   | exact tattingref1_Find.mono _ _ _
   | exact LeO.none _
   | refine LeO.ite ?_ ?_
   | refine LeO.bind ?_ (fun _ => ?_)
set_option maxHeartbeats 8000000 in
set_option maxRecDepth 100000 in
theorem tattingref1_Ids.calls (k : Nat) (A0 : Option Addr) (c0 : Nat) (l0 : List (List Int)) (A1 : Option Addr) (c1 : Nat) (l1 : List (List Int)) (r1 : List Int) (r2 : Bool) (w : World) (hr0 : Kd.C (Kd.slice 5 (Kd.int .u8)) w A0 l0.length l0) (hc0 : l0.length ≤ c0) (hr1 : Kd.C (Kd.slice 5 (Kd.int .u8)) w A1 l1.length l1) (hc1 : l1.length ≤ c1) (h : tattingref1_Ids.f k l0 l1 = some (r1, r2)) :
  Calls Try.prog 28 #[.slice A0 l0.length c0, .slice A1 l1.length c1] w fun e w' => ∃ v0_ : Value, e = .returned (.tuple #[v0_, .bool r2]) ∧ Kd.R (Kd.int .i64) 3 w' w.heap.size (fun _ => True) v0_ r1 ∧ Below w.heap.size w w' := by
 have HR0 := Aside0.mk hr0
 have HC0 := Aside0.mk hc0
 clear hr0 hc0
 have HR1 := Aside0.mk hr1
 have HC1 := Aside0.mk hc1
 clear hr1 hc1
 have HB := Aside0.mk (Below.refl w.heap.size w)
 have H : (tattingref1_Ids.l0 k l0 l1 ([] : List Int) 0) = some (r1, r2) := h
 clear h
 have H' := Aside0.mk H
 clear H
 go_enter Try.func28, Try.ntmps28
 go_wp2
 go_loopg [6, 7] k (fun kq v6 v7 w' => ∃ (x6_1 : List Int) (x7_1 : Int), v7 = .int .i64 x7_1 ∧ Aside0 (tattingref1_Ids.l0 kq l0 l1 x6_1 x7_1 = some (r1, r2)) ∧ Aside0 (kq ≤ k) ∧ Aside0 (Kd.R (Kd.int .i64) 3 w' w.heap.size (fun _ => True) v6 x6_1) ∧ Aside0 (Below w.heap.size w w'))
 case atStart => exact ⟨(([] : List Int)), (0), (by first | rfl | (simp; done) | (simp [*]; done)), H', ⟨Nat.le_refl _⟩, ⟨by first | exact Kd.R_nil _ _ _ _ _ | exact Kd.N_nil _ _ _ _ _ | exact Kd.V_nil _ _ _ _ _ | exact Kd.Q_nil _ _ _ _ _ | exact Kd.S_nil _ _ _ _ _⟩, ⟨by repeat (first | (with_reducible first | exact HB.out | apply below_alloc | apply pw_below_drewN | apply below_drew1) | exact HB.out)⟩⟩
 case round =>
  clear H'
  try clear c1
  try clear c2
  try clear p2
  obtain ⟨x6_1, x7_1, rfl, HA, HK1, HO_6, HB⟩ := hrel
  cases gk with
  | zero => exact absurd HA.out (by simp [tattingref1_Ids.l0])
  | succ k1 =>
   have H := HA.out
   clear HA
   simp only [tattingref1_Ids.l0] at H
   by_cases c3 : x7_1 < (l1.length : Int)
   ·rw [if_pos c3] at H
    have c3b0 : decide (x7_1 < (l1.length : Int)) = true := decide_eq_true c3
    clear c3
    by_cases c4 : 0 ≤ x7_1
    ·rw [if_pos c4] at H
     have c4b0 : decide (0 ≤ x7_1) = true := decide_eq_true c4
     clear c4
     replace H := Option.bind_eq_some_iff.mp H
     obtain ⟨⟨t224, t225⟩, A50, H⟩ := H
     replace H : (if t225 = true then (if x6_1.length < 17592186044416 then (tattingref1_Ids.l0 k1 l0 l1 (x6_1 ++ [t224]) (wrap64 (x7_1 + 1))) else (none)) else (some (([] : List Int), false))) = some (r1, r2) := H
     have A5 := Aside0.mk A50
     clear A50
     by_cases c6 : t225 = true
     ·subst c6
      have H1 : (if x6_1.length < 17592186044416 then (tattingref1_Ids.l0 k1 l0 l1 (x6_1 ++ [t224]) (wrap64 (x7_1 + 1))) else (none)) = some (r1, r2) := by rw [if_pos rfl] at H; exact H
      clear H
      have H := H1
      clear H1
      by_cases c7 : x6_1.length < 17592186044416
      ·rw [if_pos c7] at H
       have LMc7 := Aside0.mk c7
       clear c7
       obtain ⟨y226, hy226⟩ : ∃ y_ : List Int, y_ = (x6_1 ++ [t224]) := ⟨_, rfl⟩
       replace H : (tattingref1_Ids.l0 k1 l0 l1 y226 (wrap64 (x7_1 + 1))) = some (r1, r2) := by first | (rw [hy226]; with_reducible exact H) | (have H2_ := (Option.bind_some _ _).symm.trans H; rw [hy226]; with_reducible exact H2_) | (have H2_ := (Option.bind_some _ _).symm.trans H; with_reducible exact H2_) | with_reducible exact H | (rw [hy226]; exact H) | exact H
       have Ny226 := Aside0.mk hy226
       clear hy226
       have H' := Aside0.mk H
       clear H
       have p223 : 0 ≤ (x7_1 : Int) := of_decide_eq_true (by first | (with_reducible assumption) | assumption)
       have q223 : x7_1 < (l1.length : Int) := of_decide_eq_true (by first | (with_reducible assumption) | assumption)
       obtain ⟨ad223, A223_0, c223_0, e223, hx223_0, hl223_0, hi223_0⟩ := at_L1 HR1.out x7_1 p223 q223
       cases e223
       replace hx223_0 := (HB.out.cell (World.block_lt_of_cell? w _ hx223_0)).trans hx223_0
       have HR223_0 := Aside0.mk hi223_0
       have HC223_0 := Aside0.mk hl223_0
       clear hi223_0 hl223_0
       replace p223 := eq_true p223
       replace q223 := eq_true q223
       go_wp2_with (first | ((first | (with_reducible refine gate_callee (f := 39) rfl ?_); refine goesL_ (some 22) rfl rfl Try.func39 (by kernel_rfl) rfl #[.slice A0 l0.length c0, .slice A223_0 (rd_L1 l1 x7_1).length c223_0] rfl (by (try simp only [List.map_toArray, List.map_cons, List.map_nil]); first | done | rfl | (simp only [List.length_drop, List.length_take]; rfl)) ?_ | go_at_call 39); (with_reducible refine (tattingref1_Find.calls k1 _ _ l0 _ _ (rd_L1 l1 x7_1) t224 true _ ?side1 ?side2 ?side3 ?side4 A5.out).mono ?_); (case side1 => repeat (first | exact (Kd.C_below HR0.out HB.out) | (with_reducible refine Kd.C_alloc ?_ _) | (with_reducible refine Kd.C_drewN ?_ _) | (with_reducible refine Kd.C_drew ?_))); (case side2 => exact HC0.out); (case side3 => repeat (first | exact (Kd.C_below HR223_0.out HB.out) | (with_reducible refine Kd.C_alloc ?_ _) | (with_reducible refine Kd.C_drewN ?_ _) | (with_reducible refine Kd.C_drew ?_))); (case side4 => exact HC223_0.out); rintro e w' ⟨rfl, ⟨nd, rfl⟩⟩; (try refine ⟨_, rfl, ?_⟩)) | ((with_reducible refine gate_builtin (b := .append) (xs := #[.tmp 27, .tmp 29]) rfl ?_); at_builtin; refine Kd.R_append (Kd.int .i64) (w0 := w) w.heap.size rfl (.tmp 27) (.tmp 29) 38 3 (.int .i64 0) 8 rfl Try.underlying38 info3 rfl (by decide) (by omega) u6 x6_1 t224 [.int .i64 t224] (fun _ => True) (fun _ => False) rfl rfl ?aP (fun _ hk => hk.elim) ?aF ?aO ?aB ?aS ?aL ?_; (case aP => exact rfl); (case aB => exact (by repeat (first | (with_reducible first | exact HB.out | apply below_alloc | apply pw_below_drewN | apply below_drew1) | exact HB.out))); (case aF => exact (fun _ _ => trivial)); (case aO => exact (by (with_reducible repeat (first | apply Kd.R_alloc | apply Kd.R_drewN | apply Kd.R_drew)); exact HO_6.out)); (case aS => exact (below_size (by repeat (first | (with_reducible first | exact HB.out | apply below_alloc | apply pw_below_drewN | apply below_drew1) | exact HB.out)))); (case aL => have := LMc7.out; omega); intro v227 w8 ho hb hg hat; rw [← Ny226.out] at ho; have n0_ := Aside0.mk (hb); have n1_ := Aside0.mk (ho); clear HB; clear HO_6; have HB := n0_; have HO228 := n1_; clear n0_ n1_; (try clear ho); (try clear hb); (try clear hg); (try clear hat)))
       go_roundg k1
       case measure => have := HK1.out; omega
       case rel => exact ⟨(y226), (wrap64 (x7_1 + 1)), (by first | rfl | (simp; done) | (simp [*]; done)), H', ⟨by have := HK1.out; omega⟩, ⟨by (with_reducible repeat (first | apply Kd.R_alloc | apply Kd.R_drewN | apply Kd.R_drew)); exact HO228.out⟩, ⟨by repeat (first | (with_reducible first | exact HB.out | apply below_alloc | apply pw_below_drewN | apply below_drew1) | exact HB.out)⟩⟩
      ·rw [if_neg c7] at H
       exact absurd H (by simp)
     ·replace c6 := Bool.eq_false_iff.mpr c6
      subst c6
      have H1 : (some (([] : List Int), false)) = some (r1, r2) := by rw [if_neg (show ¬ (false = true) by decide)] at H; exact H
      clear H
      have H := H1
      clear H1
      simp only [Option.some.injEq, Prod.mk.injEq] at H
      obtain ⟨rfl, rfl⟩ := H
      have p223 : 0 ≤ (x7_1 : Int) := of_decide_eq_true (by first | (with_reducible assumption) | assumption)
      have q223 : x7_1 < (l1.length : Int) := of_decide_eq_true (by first | (with_reducible assumption) | assumption)
      obtain ⟨ad223, A223_0, c223_0, e223, hx223_0, hl223_0, hi223_0⟩ := at_L1 HR1.out x7_1 p223 q223
      cases e223
      replace hx223_0 := (HB.out.cell (World.block_lt_of_cell? w _ hx223_0)).trans hx223_0
      have HR223_0 := Aside0.mk hi223_0
      have HC223_0 := Aside0.mk hl223_0
      clear hi223_0 hl223_0
      replace p223 := eq_true p223
      replace q223 := eq_true q223
      go_wp2_with (first | ((first | (with_reducible refine gate_callee (f := 39) rfl ?_); refine goesL_ (some 22) rfl rfl Try.func39 (by kernel_rfl) rfl #[.slice A0 l0.length c0, .slice A223_0 (rd_L1 l1 x7_1).length c223_0] rfl (by (try simp only [List.map_toArray, List.map_cons, List.map_nil]); first | done | rfl | (simp only [List.length_drop, List.length_take]; rfl)) ?_ | go_at_call 39); (with_reducible refine (tattingref1_Find.calls k1 _ _ l0 _ _ (rd_L1 l1 x7_1) t224 false _ ?side1 ?side2 ?side3 ?side4 A5.out).mono ?_); (case side1 => repeat (first | exact (Kd.C_below HR0.out HB.out) | (with_reducible refine Kd.C_alloc ?_ _) | (with_reducible refine Kd.C_drewN ?_ _) | (with_reducible refine Kd.C_drew ?_))); (case side2 => exact HC0.out); (case side3 => repeat (first | exact (Kd.C_below HR223_0.out HB.out) | (with_reducible refine Kd.C_alloc ?_ _) | (with_reducible refine Kd.C_drewN ?_ _) | (with_reducible refine Kd.C_drew ?_))); (case side4 => exact HC223_0.out); rintro e w' ⟨rfl, ⟨nd, rfl⟩⟩; (try refine ⟨_, rfl, ?_⟩)))
      go_ret2
      exact ⟨_, by first | rfl | (simp [errW_none, errW_some] <;> rfl) | (simp [*, errW_none, errW_some] <;> rfl), by first | exact Kd.R_nil _ _ _ _ _ | exact Kd.N_nil _ _ _ _ _ | exact Kd.V_nil _ _ _ _ _ | exact Kd.Q_nil _ _ _ _ _ | exact Kd.S_nil _ _ _ _ _, by repeat (first | (with_reducible first | exact HB.out | apply below_alloc | apply pw_below_drewN | apply below_drew1) | exact HB.out)⟩
    ·rw [if_neg c4] at H
     exact absurd H (by simp)
   ·rw [if_neg c3] at H
    have c3b0 : decide (x7_1 < (l1.length : Int)) = false := decide_eq_false c3
    clear c3
    simp only [Option.some.injEq, Prod.mk.injEq] at H
    obtain ⟨rfl, rfl⟩ := H
    go_wp2
    go_ret2
    exact ⟨_, by first | rfl | (simp [errW_none, errW_some] <;> rfl) | (simp [*, errW_none, errW_some] <;> rfl), by (with_reducible repeat (first | apply Kd.R_alloc | apply Kd.R_drewN | apply Kd.R_drew)); exact HO_6.out, by repeat (first | (with_reducible first | exact HB.out | apply below_alloc | apply pw_below_drewN | apply below_drew1) | exact HB.out)⟩

/-! ### tattingref1_Two: function 18 -/
def tattingref1_Two.f (k : Nat) (l0 : List (List Int)) (l1 : List (List Int)) : Option (List Int × List Int × Int) := (some (([] : List (List Int)) : List (List Int))).bind fun y229 => (if y229.length + l0.length < 5864062014805 then ((some (y229 ++ l0 : List (List Int))).bind fun y232 => (if y232.length + l1.length < 5864062014805 then ((tattingref1_Sort.f k (y232 ++ l1)).bind fun t238 => ((tattingref1_Ids.f k t238 l0).bind fun bt241 => ((tattingref1_Ids.f k t238 l1).bind fun bt245 => (some (bt241.1, bt245.1, (t238.length : Int)))))) else (none))) else (none))
theorem tattingref1_Two.mono : ∀ a0 a1 k, LeO (tattingref1_Two.f k a0 a1) (tattingref1_Two.f (k + 1) a0 a1) := by
 intro a0 a1 k
 unfold tattingref1_Two.f
 repeat' first
   | (with_reducible exact tattingref1_Ids.mono _ _ _)
   | (with_reducible exact tattingref1_Sort.mono _ _)
   | (with_reducible exact LeO.refl _)
   | (with_reducible exact LeO.none _)
   | (with_reducible refine LeO.ite ?_ ?_)
   | (with_reducible refine LeO.bind ?_ (fun _ => ?_))
   | exact tattingref1_Ids.mono _ _ _
   | exact tattingref1_Sort.mono _ _
   | exact LeO.none _
   | refine LeO.ite ?_ ?_
   | refine LeO.bind ?_ (fun _ => ?_)
set_option maxHeartbeats 8000000 in
set_option maxRecDepth 100000 in
theorem tattingref1_Two.calls (k : Nat) (P0_ : Nat → Prop) (A0 : Option Addr) (c0 : Nat) (l0 : List (List Int)) (P1_ : Nat → Prop) (A1 : Option Addr) (c1 : Nat) (l1 : List (List Int)) (r1 : List Int) (r2 : List Int) (r3 : Int) (w : World) (hs0 : Kd.V (Kd.slice 5 (Kd.int .u8)) 22 w w.heap.size (fun k_ => P0_ k_) (.slice A0 l0.length c0) l0) (hs1 : Kd.V (Kd.slice 5 (Kd.int .u8)) 22 w w.heap.size (fun k_ => P1_ k_) (.slice A1 l1.length c1) l1) (h : tattingref1_Two.f k l0 l1 = some (r1, r2, r3)) :
  Calls Try.prog 18 #[.slice A0 l0.length c0, .slice A1 l1.length c1] w fun e w' => ∃ v0_ v1_ : Value, e = .returned (.tuple #[v0_, v1_, .int .i64 r3]) ∧ Kd.R (Kd.int .i64) 3 w' w.heap.size (fun k_ => (w.heap.size ≤ k_) ∧ some k_ ≠ (v1_ : Value).ownBlock) v0_ r1 ∧ Kd.R (Kd.int .i64) 3 w' w.heap.size (fun k_ => (w.heap.size ≤ k_) ∧ some k_ ≠ (v0_ : Value).ownBlock) v1_ r2 ∧ Below w.heap.size w w' := by
 have HO0 := Aside0.mk (show Kd.V (Kd.slice 5 (Kd.int .u8)) 22 w w.heap.size (fun k_ => ((P0_ k_ ∨ P1_ k_) ∨ w.heap.size ≤ k_)) (.slice A0 l0.length c0) l0 from Kd.V_mono hs0 (fun k_ hk => .inl (.inl hk)))
 have HO1 := Aside0.mk (show Kd.V (Kd.slice 5 (Kd.int .u8)) 22 w w.heap.size (fun k_ => ((P0_ k_ ∨ P1_ k_) ∨ w.heap.size ≤ k_)) (.slice A1 l1.length c1) l1 from Kd.V_mono hs1 (fun k_ hk => .inl (.inr hk)))
 have HB := Aside0.mk (Below.refl w.heap.size w)
 have H : ((some (([] : List (List Int)) : List (List Int))).bind fun y229 => (if y229.length + l0.length < 5864062014805 then ((some (y229 ++ l0 : List (List Int))).bind fun y232 => (if y232.length + l1.length < 5864062014805 then ((tattingref1_Sort.f k (y232 ++ l1)).bind fun t238 => ((tattingref1_Ids.f k t238 l0).bind fun bt241 => ((tattingref1_Ids.f k t238 l1).bind fun bt245 => (some (bt241.1, bt245.1, (t238.length : Int)))))) else (none))) else (none))) = some (r1, r2, r3) := h
 clear h
 obtain ⟨y229, hy229⟩ : ∃ y_ : List (List Int), y_ = (([] : List (List Int))) := ⟨_, rfl⟩
 replace H : (if y229.length + l0.length < 5864062014805 then ((some (y229 ++ l0 : List (List Int))).bind fun y232 => (if y232.length + l1.length < 5864062014805 then ((tattingref1_Sort.f k (y232 ++ l1)).bind fun t238 => ((tattingref1_Ids.f k t238 l0).bind fun bt241 => ((tattingref1_Ids.f k t238 l1).bind fun bt245 => (some (bt241.1, bt245.1, (t238.length : Int)))))) else (none))) else (none)) = some (r1, r2, r3) := by first | (rw [hy229]; with_reducible exact H) | (have H2_ := (Option.bind_some _ _).symm.trans H; rw [hy229]; with_reducible exact H2_) | (have H2_ := (Option.bind_some _ _).symm.trans H; with_reducible exact H2_) | with_reducible exact H | (rw [hy229]; exact H) | exact H
 have Ny229 := Aside0.mk hy229
 clear hy229
 by_cases c3 : y229.length + l0.length < 5864062014805
 ·rw [if_pos c3] at H
  have LMc3 := Aside0.mk c3
  clear c3
  obtain ⟨y232, hy232⟩ : ∃ y_ : List (List Int), y_ = (y229 ++ l0) := ⟨_, rfl⟩
  replace H : (if y232.length + l1.length < 5864062014805 then ((tattingref1_Sort.f k (y232 ++ l1)).bind fun t238 => ((tattingref1_Ids.f k t238 l0).bind fun bt241 => ((tattingref1_Ids.f k t238 l1).bind fun bt245 => (some (bt241.1, bt245.1, (t238.length : Int)))))) else (none)) = some (r1, r2, r3) := by first | (rw [hy232]; with_reducible exact H) | (have H2_ := (Option.bind_some _ _).symm.trans H; rw [hy232]; with_reducible exact H2_) | (have H2_ := (Option.bind_some _ _).symm.trans H; with_reducible exact H2_) | with_reducible exact H | (rw [hy232]; exact H) | exact H
  have Ny232 := Aside0.mk hy232
  clear hy232
  by_cases c4 : y232.length + l1.length < 5864062014805
  ·rw [if_pos c4] at H
   have LMc4 := Aside0.mk c4
   clear c4
   obtain ⟨y235, hy235⟩ : ∃ y_ : List (List Int), y_ = (y232 ++ l1) := ⟨_, rfl⟩
   replace H : ((tattingref1_Sort.f k y235).bind fun t238 => ((tattingref1_Ids.f k t238 l0).bind fun bt241 => ((tattingref1_Ids.f k t238 l1).bind fun bt245 => (some (bt241.1, bt245.1, (t238.length : Int)))))) = some (r1, r2, r3) := by first | (rw [hy235]; with_reducible exact H) | (have H2_ := (Option.bind_some _ _).symm.trans H; rw [hy235]; with_reducible exact H2_) | (have H2_ := (Option.bind_some _ _).symm.trans H; with_reducible exact H2_) | with_reducible exact H | (rw [hy235]; exact H) | exact H
   have Ny235 := Aside0.mk hy235
   clear hy235
   replace H := Option.bind_eq_some_iff.mp H
   obtain ⟨t238, A50, H⟩ := H
   replace H : ((tattingref1_Ids.f k t238 l0).bind fun bt241 => ((tattingref1_Ids.f k t238 l1).bind fun bt245 => (some (bt241.1, bt245.1, (t238.length : Int))))) = some (r1, r2, r3) := H
   have A5 := Aside0.mk A50
   clear A50
   replace H := Option.bind_eq_some_iff.mp H
   obtain ⟨⟨t241, t242⟩, A60, H⟩ := H
   replace H : ((tattingref1_Ids.f k t238 l1).bind fun bt245 => (some (t241, bt245.1, (t238.length : Int)))) = some (r1, r2, r3) := H
   have A6 := Aside0.mk A60
   clear A60
   replace H := Option.bind_eq_some_iff.mp H
   obtain ⟨⟨t245, t246⟩, A70, H⟩ := H
   replace H : (some (t241, t245, (t238.length : Int))) = some (r1, r2, r3) := H
   have A7 := Aside0.mk A70
   clear A70
   simp only [Option.some.injEq, Prod.mk.injEq] at H
   obtain ⟨rfl, rfl, rfl⟩ := H
   go_enter Try.func18, Try.ntmps18
   go_wp2_with (first | ((with_reducible refine gate_dst (N := 12) rfl ?_); refine Kd.N_lit (Kd.slice 5 (Kd.int .u8)) _ 22 ?hg (N' := 12) ?hd (xs := ([] : List (List Int))) (inner := []) (ok := (fun k_ => ((P0_ k_ ∨ P1_ k_) ∨ w.heap.size ≤ k_))) (okp := (fun k_ => ((P0_ k_ ∨ P1_ k_) ∨ w.heap.size ≤ k_))) ?hr ?hp (fun _ hk => hk) ((show ∀ k_, w.heap.size ≤ k_ → (fun k_ => ((P0_ k_ ∨ P1_ k_) ∨ w.heap.size ≤ k_)) k_ from fun k_ hk => (.inr (Nat.le_trans (below_size (by repeat (first | (with_reducible first | exact HB.out | apply below_alloc | apply pw_below_drewN | apply below_drew1) | exact HB.out))) hk))) _ (Nat.le_refl _)) (Below.refl _ _) (Nat.le_refl _) (by simp) ?_; (case hd => rfl); (case hg => rfl); (case hr => first | (go_simp; done) | (go_simp; rfl)); (case hp => exact (Reps.none _ _)); intro v230 w8 ho9 hb hg_ hnew_; (try clear hg_); (try clear hnew_); (first | rw [← Ny229.out] at ho9 | (simp only [Int.reduceToNat] at ho9; rw [← Ny229.out] at ho9)); have n0_ := Aside0.mk (Kd.V_elder' (by (with_reducible repeat (first | apply Kd.V_alloc | apply Kd.V_drewN | apply Kd.V_drew)); exact HO0.out) (Kd.N_base ho9) hb); have n1_ := Aside0.mk (Kd.V_elder' (by (with_reducible repeat (first | apply Kd.V_alloc | apply Kd.V_drewN | apply Kd.V_drew)); exact HO1.out) (Kd.N_base ho9) hb); have n2_ := Aside0.mk (Kd.N_lower ho9 (below_size (by repeat (first | (with_reducible first | exact HB.out | apply below_alloc | apply pw_below_drewN | apply below_drew1) | exact HB.out)))); have n3_ := Aside0.mk (below_step (by repeat (first | (with_reducible first | exact HB.out | apply below_alloc | apply pw_below_drewN | apply below_drew1) | exact HB.out)) hb); clear HO0; clear HO1; clear HB; have HO0 := n0_; have HO1 := n1_; have HO231 := n2_; have HB := n3_; clear n0_ n1_ n2_ n3_; (try clear hb); (try clear ho9)) | ((with_reducible refine gate_builtin (b := .append) (xs := #[.tmp 12, .tmp 13]) rfl ?_); at_builtin; refine Kd.N_append_rows (Kd.slice 5 (Kd.int .u8)) (w0 := w) w.heap.size rfl (.tmp 12) (.tmp 13) 23 22 (.slice none 0 0) 24 rfl Try.underlying23 info22 rfl (by decide) (by omega) v230 y229 l0 _ _ _ (fun k_ => ((P0_ k_ ∨ P1_ k_) ∨ w.heap.size ≤ k_)) (fun k_ => ((fun k_ => ((P0_ k_ ∨ P1_ k_) ∨ w.heap.size ≤ k_))) k_ ∧ some k_ ≠ (v230 : Value).ownBlock) rfl rfl ?aO ?aR (fun _ hk => hk) ?aF ?aB ?aS ?aL ?_; (case aR => exact (by skip; exact Kd.V_F (Kd.V_mono (ok' := (fun k_ => ((fun k_ => ((P0_ k_ ∨ P1_ k_) ∨ w.heap.size ≤ k_))) k_ ∧ some k_ ≠ (v230 : Value).ownBlock)) (HO0.out) (fun k_ hk => ⟨hk.1, hk.2⟩)))); (case aB => exact (by repeat (first | (with_reducible first | exact HB.out | apply below_alloc | apply pw_below_drewN | apply below_drew1) | exact HB.out))); (case aF => exact (fun k_ hk => (.inr (Nat.le_trans (below_size (by repeat (first | (with_reducible first | exact HB.out | apply below_alloc | apply pw_below_drewN | apply below_drew1) | exact HB.out))) hk)))); (case aO => exact (by (with_reducible repeat (first | apply Kd.N_alloc | apply Kd.N_drewN | apply Kd.N_drew)); exact HO231.out)); (case aS => exact (below_size (by repeat (first | (with_reducible first | exact HB.out | apply below_alloc | apply pw_below_drewN | apply below_drew1) | exact HB.out)))); (case aL => have := LMc3.out; omega); intro v233 w10 ho hb hg hat; rw [← Ny232.out] at ho; have n0_ := Aside0.mk (Kd.V_afterv (ok := (fun k_ => ((P0_ k_ ∨ P1_ k_) ∨ w.heap.size ≤ k_))) (by (with_reducible repeat (first | apply Kd.V_alloc | apply Kd.V_drewN | apply Kd.V_drew)); exact HO0.out) hg hat); have n1_ := Aside0.mk (Kd.V_afterv (ok := (fun k_ => ((P0_ k_ ∨ P1_ k_) ∨ w.heap.size ≤ k_))) (by (with_reducible repeat (first | apply Kd.V_alloc | apply Kd.V_drewN | apply Kd.V_drew)); exact HO1.out) hg hat); have n2_ := Aside0.mk (hb); have n3_ := Aside0.mk (ho); clear HO0; clear HO1; clear HB; clear HO231; have HO0 := n0_; have HO1 := n1_; have HB := n2_; have HO234 := n3_; clear n0_ n1_ n2_ n3_; (try clear ho); (try clear hb); (try clear hg); (try clear hat)) | ((with_reducible refine gate_builtin (b := .append) (xs := #[.tmp 14, .tmp 15]) rfl ?_); at_builtin; refine Kd.N_append_rows (Kd.slice 5 (Kd.int .u8)) (w0 := w) w.heap.size rfl (.tmp 14) (.tmp 15) 23 22 (.slice none 0 0) 24 rfl Try.underlying23 info22 rfl (by decide) (by omega) v233 y232 l1 _ _ _ (fun k_ => ((P0_ k_ ∨ P1_ k_) ∨ w.heap.size ≤ k_)) (fun k_ => ((fun k_ => ((P0_ k_ ∨ P1_ k_) ∨ w.heap.size ≤ k_))) k_ ∧ some k_ ≠ (v233 : Value).ownBlock) rfl rfl ?aO ?aR (fun _ hk => hk) ?aF ?aB ?aS ?aL ?_; (case aR => exact (by skip; exact Kd.V_F (Kd.V_mono (ok' := (fun k_ => ((fun k_ => ((P0_ k_ ∨ P1_ k_) ∨ w.heap.size ≤ k_))) k_ ∧ some k_ ≠ (v233 : Value).ownBlock)) (HO1.out) (fun k_ hk => ⟨hk.1, hk.2⟩)))); (case aB => exact (by repeat (first | (with_reducible first | exact HB.out | apply below_alloc | apply pw_below_drewN | apply below_drew1) | exact HB.out))); (case aF => exact (fun k_ hk => (.inr (Nat.le_trans (below_size (by repeat (first | (with_reducible first | exact HB.out | apply below_alloc | apply pw_below_drewN | apply below_drew1) | exact HB.out))) hk)))); (case aO => exact (by (with_reducible repeat (first | apply Kd.N_alloc | apply Kd.N_drewN | apply Kd.N_drew)); exact HO234.out)); (case aS => exact (below_size (by repeat (first | (with_reducible first | exact HB.out | apply below_alloc | apply pw_below_drewN | apply below_drew1) | exact HB.out)))); (case aL => have := LMc4.out; omega); intro v236 w11 ho hb hg hat; rw [← Ny235.out] at ho; have n0_ := Aside0.mk (Kd.V_afterv (ok := (fun k_ => ((P0_ k_ ∨ P1_ k_) ∨ w.heap.size ≤ k_))) (by (with_reducible repeat (first | apply Kd.V_alloc | apply Kd.V_drewN | apply Kd.V_drew)); exact HO0.out) hg hat); have n1_ := Aside0.mk (Kd.V_afterv (ok := (fun k_ => ((P0_ k_ ∨ P1_ k_) ∨ w.heap.size ≤ k_))) (by (with_reducible repeat (first | apply Kd.V_alloc | apply Kd.V_drewN | apply Kd.V_drew)); exact HO1.out) hg hat); have n2_ := Aside0.mk (hb); have n3_ := Aside0.mk (ho); clear HO0; clear HO1; clear HB; clear HO234; have HO0 := n0_; have HO1 := n1_; have HB := n2_; have HO237 := n3_; clear n0_ n1_ n2_ n3_; (try clear ho); (try clear hb); (try clear hg); (try clear hat); obtain ⟨Ao12, co12, eo12⟩ := Kd.N_slice HO237.out; subst eo12) | ((first | (with_reducible refine gate_callee (f := 27) rfl ?_); refine goesL_ (some 17) rfl rfl Try.func27 (by kernel_rfl) rfl #[.slice Ao12 y235.length co12] rfl (by (try simp only [List.map_toArray, List.map_cons, List.map_nil]); first | done | rfl | (simp only [List.length_drop, List.length_take]; rfl)) ?_ | go_at_call 27); (with_reducible refine (tattingref1_Sort.calls k (fun k_ => ((P0_ k_ ∨ P1_ k_) ∨ w.heap.size ≤ k_)) _ _ y235 t238 _ ?side1 A5.out).mono ?_); (case side1 => exact Kd.N_V (HO237.out)); rintro e w13 ⟨v239, rfl, ho0, hb⟩; (try refine ⟨_, rfl, ?_⟩); have n0_ := Aside0.mk (Kd.V_elder' (by (with_reducible repeat (first | apply Kd.V_alloc | apply Kd.V_drewN | apply Kd.V_drew)); exact HO0.out) (Kd.N_base ho0) hb); have n1_ := Aside0.mk (Kd.V_elder' (by (with_reducible repeat (first | apply Kd.V_alloc | apply Kd.V_drewN | apply Kd.V_drew)); exact HO1.out) (Kd.N_base ho0) hb); have n2_ := Aside0.mk (Kd.N_elder' (by (with_reducible repeat (first | apply Kd.N_alloc | apply Kd.N_drewN | apply Kd.N_drew)); exact HO237.out) (Kd.N_base ho0) hb); have n3_ := Aside0.mk (Kd.N_lower (Kd.N_mono (ok' := fun k_ => ((P0_ k_ ∨ P1_ k_) ∨ w.heap.size ≤ k_)) ho0 (fun k_ hk_ => Or.elim hk_ (fun hs_ => hs_) (fun hn_ => (.inr (Nat.le_trans (below_size (by repeat (first | (with_reducible first | exact HB.out | apply below_alloc | apply pw_below_drewN | apply below_drew1) | exact HB.out))) hn_))))) (below_size (by repeat (first | (with_reducible first | exact HB.out | apply below_alloc | apply pw_below_drewN | apply below_drew1) | exact HB.out)))); have n4_ := Aside0.mk (below_step (by repeat (first | (with_reducible first | exact HB.out | apply below_alloc | apply pw_below_drewN | apply below_drew1) | exact HB.out)) hb); clear HO0; clear HO1; clear HO237; clear HB; have HO0 := n0_; have HO1 := n1_; have HO237 := n2_; have HO240 := n3_; have HB := n4_; clear n0_ n1_ n2_ n3_ n4_; (try clear hb); (try clear hb2); (try clear hk); (try clear hi); (try clear ho0); obtain ⟨Ao14, co14, eo14⟩ := Kd.N_slice HO240.out; subst eo14) | ((first | (with_reducible refine gate_callee (f := 28) rfl ?_); refine goesL_ (some 21) rfl rfl Try.func28 (by kernel_rfl) rfl #[.slice Ao14 t238.length co14, .slice A0 l0.length c0] rfl (by (try simp only [List.map_toArray, List.map_cons, List.map_nil]); first | done | rfl | (simp only [List.length_drop, List.length_take]; rfl)) ?_ | go_at_call 28); (with_reducible refine (tattingref1_Ids.calls k _ _ t238 _ _ l0 t241 t242 _ ?side1 ?side2 ?side3 ?side4 A6.out).mono ?_); (case side1 => repeat (first | exact (Kd.N_reads' HO240.out).2.2 | (with_reducible refine Kd.C_alloc ?_ _) | (with_reducible refine Kd.C_drewN ?_ _) | (with_reducible refine Kd.C_drew ?_))); (case side2 => exact (Kd.N_reads' HO240.out).2.1); (case side3 => repeat (first | exact (Kd.V_reads' HO0.out).2.2 | (with_reducible refine Kd.C_alloc ?_ _) | (with_reducible refine Kd.C_drewN ?_ _) | (with_reducible refine Kd.C_drew ?_))); (case side4 => exact (Kd.V_reads' HO0.out).2.1); rintro e w15 ⟨v243, rfl, ho0, hb⟩; (try refine ⟨_, rfl, ?_⟩); have n0_ := Aside0.mk (Kd.V_elder' (by (with_reducible repeat (first | apply Kd.V_alloc | apply Kd.V_drewN | apply Kd.V_drew)); exact HO0.out) (Kd.R_base ho0) hb); have n1_ := Aside0.mk (Kd.V_elder' (by (with_reducible repeat (first | apply Kd.V_alloc | apply Kd.V_drewN | apply Kd.V_drew)); exact HO1.out) (Kd.R_base ho0) hb); have n2_ := Aside0.mk (Kd.N_elder' (by (with_reducible repeat (first | apply Kd.N_alloc | apply Kd.N_drewN | apply Kd.N_drew)); exact HO237.out) (Kd.R_base ho0) hb); have n3_ := Aside0.mk (Kd.N_elder' (by (with_reducible repeat (first | apply Kd.N_alloc | apply Kd.N_drewN | apply Kd.N_drew)); exact HO240.out) (Kd.R_base ho0) hb); have n4_ := Aside0.mk (Kd.R_lower (Kd.R_newM (M := fun k_ => (w.heap.size ≤ k_)) ho0 (below_size (by repeat (first | (with_reducible first | exact HB.out | apply below_alloc | apply pw_below_drewN | apply below_drew1) | exact HB.out))) (fun k_ h_ => h_)) (below_size (by repeat (first | (with_reducible first | exact HB.out | apply below_alloc | apply pw_below_drewN | apply below_drew1) | exact HB.out)))); have n5_ := Aside0.mk (below_step (by repeat (first | (with_reducible first | exact HB.out | apply below_alloc | apply pw_below_drewN | apply below_drew1) | exact HB.out)) hb); clear HO0; clear HO1; clear HO237; clear HO240; clear HB; have HO0 := n0_; have HO1 := n1_; have HO237 := n2_; have HO240 := n3_; have HO244 := n4_; have HB := n5_; clear n0_ n1_ n2_ n3_ n4_ n5_; (try clear hb); (try clear hb2); (try clear hk); (try clear hi); (try clear ho0)) | ((first | (with_reducible refine gate_callee (f := 28) rfl ?_); refine goesL_ (some 27) rfl rfl Try.func28 (by kernel_rfl) rfl #[.slice Ao14 t238.length co14, .slice A1 l1.length c1] rfl (by (try simp only [List.map_toArray, List.map_cons, List.map_nil]); first | done | rfl | (simp only [List.length_drop, List.length_take]; rfl)) ?_ | go_at_call 28); (with_reducible refine (tattingref1_Ids.calls k _ _ t238 _ _ l1 t245 t246 _ ?side1 ?side2 ?side3 ?side4 A7.out).mono ?_); (case side1 => repeat (first | exact (Kd.N_reads' HO240.out).2.2 | (with_reducible refine Kd.C_alloc ?_ _) | (with_reducible refine Kd.C_drewN ?_ _) | (with_reducible refine Kd.C_drew ?_))); (case side2 => exact (Kd.N_reads' HO240.out).2.1); (case side3 => repeat (first | exact (Kd.V_reads' HO1.out).2.2 | (with_reducible refine Kd.C_alloc ?_ _) | (with_reducible refine Kd.C_drewN ?_ _) | (with_reducible refine Kd.C_drew ?_))); (case side4 => exact (Kd.V_reads' HO1.out).2.1); rintro e w16 ⟨v247, rfl, ho0, hb⟩; (try refine ⟨_, rfl, ?_⟩); have n0_ := Aside0.mk (Kd.V_elder' (by (with_reducible repeat (first | apply Kd.V_alloc | apply Kd.V_drewN | apply Kd.V_drew)); exact HO0.out) (Kd.R_base ho0) hb); have n1_ := Aside0.mk (Kd.V_elder' (by (with_reducible repeat (first | apply Kd.V_alloc | apply Kd.V_drewN | apply Kd.V_drew)); exact HO1.out) (Kd.R_base ho0) hb); have n2_ := Aside0.mk (Kd.N_elder' (by (with_reducible repeat (first | apply Kd.N_alloc | apply Kd.N_drewN | apply Kd.N_drew)); exact HO237.out) (Kd.R_base ho0) hb); have n3_ := Aside0.mk (Kd.N_elder' (by (with_reducible repeat (first | apply Kd.N_alloc | apply Kd.N_drewN | apply Kd.N_drew)); exact HO240.out) (Kd.R_base ho0) hb); have n4_ := Aside0.mk (Kd.R_elder' (by (with_reducible repeat (first | apply Kd.R_alloc | apply Kd.R_drewN | apply Kd.R_drew)); exact HO244.out) (Kd.R_base ho0) hb); have n5_ := Aside0.mk (Kd.R_lower (Kd.R_new' (Kd.R_newM (M := fun k_ => (w.heap.size ≤ k_)) ho0 (below_size (by repeat (first | (with_reducible first | exact HB.out | apply below_alloc | apply pw_below_drewN | apply below_drew1) | exact HB.out))) (fun k_ h_ => h_)) (Kd.R_lt (by (with_reducible repeat (first | apply Kd.R_alloc | apply Kd.R_drewN | apply Kd.R_drew)); exact HO244.out))) (below_size (by repeat (first | (with_reducible first | exact HB.out | apply below_alloc | apply pw_below_drewN | apply below_drew1) | exact HB.out)))); have n6_ := Aside0.mk (below_step (by repeat (first | (with_reducible first | exact HB.out | apply below_alloc | apply pw_below_drewN | apply below_drew1) | exact HB.out)) hb); clear HO0; clear HO1; clear HO237; clear HO240; clear HO244; clear HB; have HO0 := n0_; have HO1 := n1_; have HO237 := n2_; have HO240 := n3_; have HO244 := n4_; have HO248 := n5_; have HB := n6_; clear n0_ n1_ n2_ n3_ n4_ n5_ n6_; (try clear hb); (try clear hb2); (try clear hk); (try clear hi); (try clear ho0)))
   go_ret3
   exact ⟨_, _, by first | rfl | (simp [errW_none, errW_some] <;> rfl) | (simp [*, errW_none, errW_some] <;> rfl), by (with_reducible repeat (first | apply Kd.R_alloc | apply Kd.R_drewN | apply Kd.R_drew)); exact Kd.R_mono HO244.out (fun _ hk => ⟨hk.1.1, hk.2⟩), by (with_reducible repeat (first | apply Kd.R_alloc | apply Kd.R_drewN | apply Kd.R_drew)); exact Kd.R_mono HO248.out (fun _ hk => ⟨hk.1.1, hk.2⟩), by repeat (first | (with_reducible first | exact HB.out | apply below_alloc | apply pw_below_drewN | apply below_drew1) | exact HB.out)⟩
  ·rw [if_neg c4] at H
   exact absurd H (by simp)
 ·rw [if_neg c3] at H
  exact absurd H (by simp)

end Go.Proofs.Ytlodaoijokfblaa.PPatchMade
