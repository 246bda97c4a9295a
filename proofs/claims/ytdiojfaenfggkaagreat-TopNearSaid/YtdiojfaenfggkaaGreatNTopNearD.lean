/- Functions of the given program, each a Lean function and the walk that shows it. -/
import Derived.Test.YtdiojfaenfggkaaGreatNTopNearC
import Derived.Outline
import Derived.Deep.RegionHeld3
import Derived.Deep.DeepCutAuto
import Derived.Deep.QuietTactic
import Derived.BigQuiet
import Derived.IntWalk
namespace Go.Proofs.YtdiojfaenfggkaaGreat.PTopNear
open Go.RowKit Go.Proofs.YtdiojfaenfggkaaGreatW.PrintWords Go.Proofs.YtdiojfaenfggkaaGreatW.PrintLast Go.Proofs.YtdiojfaenfggkaaGreatW.PrintMore
attribute [local go_sem] max2_int min2_int max_two min_two max_three min_three max_four min_four
set_option linter.unusedVariables false
set_option linter.unusedSimpArgs false
open Go.Sort in
theorem put_world {w : World} {g : Nat} {cur : Array Value} (hg : w.heap[g]? = some (.cells cur 3 (0, 0))) (n : Nat) (d : Array Int) (os : Array Obj) (hd : d.size ≤ cur.size) :
    (grow (putRow (Value.int .i64) (Sort.ahead w n) g 0 d) os).heap[g]? = some (.cells (putCells (Value.int .i64) 0 d cur) 3 (0, 0)) ∧ (putCells (Value.int .i64) 0 d cur).size = cur.size ∧ (putCells (Value.int .i64) 0 d cur).toList.take d.size = d.toList.map (Value.int .i64) ∧ Beside g w (grow (putRow (Value.int .i64) (Sort.ahead w n) g 0 d) os) := by
  have hlt := blk_lt hg
  have e1 : ∀ k, k < w.heap.size → (grow (putRow (Value.int .i64) (Sort.ahead w n) g 0 d) os).heap[k]? = (w.heap.modify g (onCells (putCells (Value.int .i64) 0 d)))[k]? := by
    intro k hk
    show ((w.heap.modify g (onCells (putCells (Value.int .i64) 0 d))) ++ os)[k]? = _
    rw [Array.getElem?_append_left (by simpa using hk)]
  refine ⟨?_, by unfold putCells; simp, putCells_take _ _ _ hd, ⟨rfl, rfl, rfl, ?_, fun k hne hk => ?_⟩⟩
  · rw [e1 g hlt, Array.getElem?_modify, if_pos rfl, hg]; rfl
  · show w.heap.size ≤ ((w.heap.modify g (onCells (putCells (Value.int .i64) 0 d))) ++ os).size
    simp
  · rw [e1 k hk, Array.getElem?_modify, if_neg (fun e => hne e.symm)]
theorem holds_ints {w : World} {g : Nat} {cur : Array Value} (hg : w.heap[g]? = some (.cells cur 3 (0, 0))) {l : List Int} (ht : cur.toList.take l.length = l.map (Value.int .i64)) : Go.Sort.Holds (Value.int .i64) w g 0 l.toArray := by
  intro j hj
  have hj' : j < l.length := by simpa using hj
  refine ⟨?_, blk_frozen hg _⟩
  rw [Nat.zero_add]
  refine (blk_cell hg j).trans ?_
  have h1 : (cur.toList.take l.length)[j]? = (l.map (Value.int .i64))[j]? := by rw [ht]
  rw [List.getElem?_take, if_pos hj', Array.getElem?_toList] at h1
  rw [h1, getElem!_pos l.toArray j hj]
  simp [hj']
set_option maxHeartbeats 2000000 in
theorem sort_ints {w : World} {g : Nat} {cur : Array Value} (hg : w.heap[g]? = some (.cells cur 3 (0, 0))) {l : List Int} (hl : l.length ≤ cur.size) (hl2 : l.length ≤ 1000000) (ht : cur.toList.take l.length = l.map (Value.int .i64)) (cap : Nat) :
    Calls Tryz.prog 162 #[.slice (some ⟨g, 0, none⟩) l.length cap] w fun e w' => e = .returned (.tuple #[]) ∧ ∃ (ys : List Int) (cur' : Array Value), ys.Perm l ∧ w'.heap[g]? = some (.cells cur' 3 (0, 0)) ∧ cur'.size = cur.size ∧ cur'.toList.take l.length = ys.map (Value.int .i64) ∧ Beside g w w' :=
  (Tryz.slices_Sort_int g 0 cap l w (holds_ints hg ht) (blk_lt hg) (by omega)).mono fun e w' ⟨he, n, os, hw⟩ => by
    have hlen : (l.mergeSort fun x y => decide (x ≤ y)).length = l.length := List.length_mergeSort l
    obtain ⟨h1, h2, h3, h4⟩ := put_world hg n (l.mergeSort fun x y => decide (x ≤ y)).toArray os (by simpa using hl)
    rw [← hw] at h1 h4
    refine ⟨he, l.mergeSort fun x y => decide (x ≤ y), _, List.mergeSort_perm l _, h1, h2, ?_, h4⟩
    simpa [hlen] using h3
theorem mem_upTo (d : Array Int) : ∀ m j, j < m → d[j]! ∈ Lib.compactUpTo d m
  | m + 1, j, h => by
    rw [Lib.compactUpTo_succ]
    by_cases hj : j < m
    · exact List.mem_append_left _ (mem_upTo d m j hj)
    · obtain rfl : j = m := by omega
      by_cases hk : Lib.keeps d j = true
      · rw [if_pos hk]; exact List.mem_append_right _ (List.mem_singleton.2 rfl)
      · have h0 : j ≠ 0 := fun e => hk (by subst e; exact Lib.keeps_lt_one d 0 (by omega))
        have he : d[j]! = d[j - 1]! := by
          unfold Lib.keeps at hk
          simp at hk
          exact hk.2
        rw [he]
        exact List.mem_append_left _ (mem_upTo d j (j - 1) (by omega))
theorem mem_compact (zs : List Int) (x : Int) : x ∈ Lib.compact zs ↔ x ∈ zs := by
  constructor
  · intro h
    unfold Lib.compact Lib.compactUpTo at h
    obtain ⟨j, hj, rfl⟩ := List.mem_map.1 h
    have hj := List.mem_range.1 (List.mem_filter.1 hj).1
    rw [getElem!_pos zs.toArray j (by simpa using hj)]
    simp
  · intro h
    obtain ⟨j, hj, rfl⟩ := List.getElem_of_mem h
    have := mem_upTo zs.toArray zs.length j hj
    rwa [getElem!_pos zs.toArray j (by simpa using hj)] at this
set_option maxHeartbeats 2000000 in
theorem compact_ints {w : World} {g : Nat} {cur : Array Value} (hg : w.heap[g]? = some (.cells cur 3 (0, 0))) {l : List Int} (hl : l.length ≤ cur.size) (hl2 : l.length ≤ 1000000) (ht : cur.toList.take l.length = l.map (Value.int .i64)) (cap : Nat) (hcap : l.length ≤ cap) :
    Calls Tryz.prog 163 #[.slice (some ⟨g, 0, none⟩) l.length cap] w fun e w' => ∃ (zs : List Int) (cur' : Array Value), e = .returned (.slice (some ⟨g, 0, none⟩) zs.length cap) ∧ (∀ x, x ∈ zs ↔ x ∈ l) ∧ zs.length ≤ l.length ∧ w'.heap[g]? = some (.cells cur' 3 (0, 0)) ∧ cur'.toList.take zs.length = zs.map (Value.int .i64) ∧ Beside g w w' :=
  (Tryz.slices_Compact_int g 0 cap l w (holds_ints hg ht) (by omega) hcap).mono fun e w' ⟨he, n, hw⟩ => by
    have hle := Lib.compact_length_le l
    obtain ⟨h1, h2, h3, h4⟩ := put_world hg n (Lib.compact l ++ List.replicate (l.length - (Lib.compact l).length) 0).toArray #[] (by simp; omega)
    have hw' : w' = Go.Sort.grow (Go.Sort.putRow (Value.int .i64) (Go.Sort.ahead w n) g 0 (Lib.compact l ++ List.replicate (l.length - (Lib.compact l).length) 0).toArray) #[] := by rw [hw, Go.Sort.grow_empty]
    rw [← hw'] at h1 h4
    refine ⟨Lib.compact l, _, he, mem_compact l, hle, h1, ?_, h4⟩
    have h5 := congrArg (List.take (Lib.compact l).length) h3
    rw [List.take_take] at h5
    simp only [List.size_toArray, List.length_append, List.length_replicate] at h5
    rw [Nat.min_eq_left (by omega)] at h5
    rw [h5]
    simp
set_option maxHeartbeats 2000000 in
theorem vec_width.small (n : Nat) (h : n ≤ 24) (w : World) : Calls Tryz.prog 195 #[.int .i64 n] w fun e w' => e = .returned (.int .i64 n) ∧ w' = w := by
  have h0 : (0 : Int) ≤ (n : Int) := by omega
  have h1 : (n : Int) ≤ 1048576 := by omega
  go_enter Tryz.func195, Tryz.ntmps195
  go_wp2
  all_goals first | (exfalso; omega) | skip
  go_ret
  exact ⟨rfl, rfl⟩
set_option maxHeartbeats 2000000 in
theorem vec_Words.small (n : Nat) (h0 : 1 ≤ n) (h : n ≤ 24) (w : World) : Calls Tryz.prog 164 #[.int .i64 n] w fun e w' => e = .returned (.int .i64 1) ∧ w' = w := by
  have HE := Aside0.mk (show ((n : Int) + 64 - 1) / 64 = 1 by omega)
  have H := Aside0.mk (vec_width.small n h)
  have h2 : (0 : Int) ≤ (n : Int) + 64 - 1 := by omega
  go_enter Tryz.func164, Tryz.ntmps164
  go_wp2_with (first | (go_at_call 195; ((with_reducible refine (H.out _).mono ?_); rintro e w2 ⟨rfl, rfl⟩)))
  go_ret
  exact ⟨(show Ending.returned (.int .i64 (((n : Int) + 64 - 1) / 64)) = _ by rw [HE.out]), rfl⟩
theorem or_bit (x : Int) (l : List Int) (j : Nat) (h : l.length = j) (hj : j ≤ 24) : bits BinOp.or IntKind.u64 (maskN x l : Nat) (IntKind.u64.wrap (2 ^ j)) = ((maskN x (l ++ [x]) : Nat) : Int) := by
  have hp : (2 : Nat) ^ j ≤ 2 ^ 24 := Nat.pow_le_pow_right (by decide) hj
  have hm := maskN_lt x l
  rw [h] at hm
  have e : IntKind.u64.wrap ((2 : Int) ^ j) = ((2 ^ j : Nat) : Int) := by
    rw [show (2 : Int) ^ j = ((2 ^ j : Nat) : Int) by push_cast; rfl]
    generalize 2 ^ j = p at hp
    simp [IntKind.wrap, IntKind.bits, IntKind.signed]
    omega
  rw [e, bits_or_u64_nat _ _ (by omega) (by omega), maskN_snoc_same, h]
theorem own_row {w : World} {base : Nat} {v : Value} {l : List Int} {ok : Nat → Prop} (h : (Kd.int .i64).R 3 w base ok v l) (h0 : 1 ≤ l.length) : ∃ g cap cur, v = .slice (some ⟨g, 0, none⟩) l.length cap ∧ base ≤ g ∧ w.heap[g]? = some (.cells cur 3 (0, 0)) ∧ l.length ≤ cap ∧ l.length ≤ cur.size ∧ cur.toList.take l.length = l.map (Value.int .i64) := by
  rcases (Kd.own_of_R h).2 with ⟨_, hn⟩ | ⟨g, cap, cur, rfl, hb, hh, hnc, hcm, hcs, ht⟩
  · omega
  · exact ⟨g, cap, cur, rfl, hb, hh, hnc, by omega, by rw [Nat.mul_one] at ht; exact ht⟩
def mkC (n : Nat) (sl : Value) (rb : Nat) : Array Value := #[.int .i64 n, sl, .map (some rb)]
def MasksAt (W : World) (mb rb : Nat) (b : List Int) : Prop := ∃ (sl : Value) (base k : Nat) (S : Int → Bool) (D : DataW Unit) (G : Int → Nat),
  W.heap[mb]? = some (.cells (mkC b.length sl rb) 231 (0, 0)) ∧ MaskMap W rb base k S (fun x => maskN x b) D G ∧ ∀ x, x ∈ b → S x = true
set_option maxHeartbeats 4000000 in
set_option maxRecDepth 100000 in
theorem mask_New.calls (A : Option Addr) (c : Nat) (l : List Int) (w : World) (hr : Kd.C (Kd.int .i64) w A l.length l) (h0 : 1 ≤ l.length) (h1 : l.length ≤ 24) (hw : ∀ x ∈ l, (Lit.int .i64 x).wf = true) :
    Calls Tryz.prog 126 #[.slice A l.length c] w fun e w' => ∃ mb rb, e = .returned (.pointer (some ⟨mb, 0, none⟩)) ∧ MasksAt w' mb rb l ∧ Below w.heap.size w w' := by
  have H := Aside0.mk hr
  have HW := Aside0.mk hw
  clear hr hw
  have hmm := @run_makeMap Tryz.prog
  go_enter Tryz.func126, Tryz.ntmps126
  go_upto_region 2 with fail
  have HB := Aside0.mk (below_alloc (below_alloc (Below.refl w.heap.size w) (Obj.map #[] 0)) (Obj.cells #[Value.int IntKind.i64 l.length, Value.slice none 0 0, Value.map (some w.heap.size)] 231))
  have HM := Aside0.mk (blk_alloc (alloc_at w (Obj.map #[] 0)) (Obj.cells #[Value.int IntKind.i64 l.length, Value.slice none 0 0, Value.map (some w.heap.size)] 231))
  have HG := alloc_at (w.alloc (Obj.map #[] 0)) (Obj.cells #[Value.int IntKind.i64 l.length, Value.slice none 0 0, Value.map (some w.heap.size)] 231)
  rw [alloc_sz] at HG
  have HG := Aside0.mk HG
  generalize (w.alloc (Obj.map #[] 0)).alloc (Obj.cells #[Value.int IntKind.i64 l.length, Value.slice none 0 0, Value.map (some w.heap.size)] 231) = w1 at HB HM HG ⊢
  have hz1 : w1.cell? ⟨w.heap.size + 1, 1, none⟩ = some (.slice none 0 0) := (blk_cell HG.out 1).trans rfl
  have hf1 := blk_frozen HG.out 1
  go_upto_region 3 with (first
    | (go_at_call 139; ((with_reducible refine (clone_ints A c l _ (Kd.C_below H.out HB.out) (by omega)).mono ?_); rintro e w2 ⟨v, rfl, hv, hb⟩; have n0_ := Aside0.mk (blk_below HG.out hb); have n1_ := Aside0.mk (blk_below HM.out hb); have n2_ := Aside0.mk (below_step HB.out hb); obtain ⟨g, cap, cur, rfl, hg1, hg2, hg3, hg4, hg5⟩ := own_row hv h0; have HR := Aside0.mk (And.intro hg2 (And.intro hg4 hg5)); have HCAP := Aside0.mk hg3; have HGL := Aside0.mk (Nat.lt_of_lt_of_le (blk_lt HG.out) hg1); have hz2 := pw_cell_below hb hz1; have hf2 := blk_frozen n0_.out 1; clear HG HM HB hz1 hf1 hv hb hg1 hg2 hg3 hg4 hg5; have HG := n0_; have HM := n1_; have HB := n2_; clear n0_ n1_ n2_)))
  have n0_ := Aside0.mk (blk_put HG.out 1 (.slice (some ⟨g, 0, none⟩) l.length cap) (cs' := mkC l.length (.slice (some ⟨g, 0, none⟩) l.length cap) w.heap.size) rfl)
  have n1_ := Aside0.mk (show (w2.setCell ⟨w.heap.size + 1, 1, none⟩ (.slice (some ⟨g, 0, none⟩) l.length cap)).heap[w.heap.size]? = _ from (Below.heap_setCell w2 _ _ _ (by simp)).trans HM.out)
  have n2_ := Aside0.mk (below_set HB.out (g := w.heap.size + 1) (j := 1) (v := .slice (some ⟨g, 0, none⟩) l.length cap) (by omega))
  have n3_ := Aside0.mk (And.intro (blk_far HR.out.1 (p := ⟨w.heap.size + 1, 1, none⟩) (by simp only; have := HGL.out; omega) (.slice (some ⟨g, 0, none⟩) l.length cap)) HR.out.2)
  clear HG HM HB HR hz2 hf2
  generalize w2.setCell ⟨w.heap.size + 1, 1, none⟩ (.slice (some ⟨g, 0, none⟩) l.length cap) = w3 at n0_ n1_ n2_ n3_ ⊢
  have HG := n0_
  have HM := n1_
  have HB := n2_
  have HR := n3_
  clear n0_ n1_ n2_ n3_
  have hz1 : w3.cell? ⟨w.heap.size + 1, 1, none⟩ = some (.slice (some ⟨g, 0, none⟩) l.length cap) := (blk_cell HG.out 1).trans rfl
  go_upto_region 4 with (first
    | (go_at_call 162; ((with_reducible refine (sort_ints HR.out.1 HR.out.2.1 (by omega) HR.out.2.2 cap).mono ?_); rintro e w4 ⟨rfl, ys, cur', hp, hh, hs, ht, hbe⟩; have HP := Aside0.mk hp; have n0_ := Aside0.mk ((hbe.block _ (by have := HGL.out; omega) (blk_lt HG.out)).trans HG.out); have n1_ := Aside0.mk ((hbe.block _ (by have := HGL.out; omega) (blk_lt HM.out)).trans HM.out); have n2_ := Aside0.mk (hbe.below HB.out (by have := HGL.out; omega)); have n3_ := Aside0.mk (And.intro hh (And.intro (show l.length ≤ cur'.size by rw [hs]; exact HR.out.2.1) ht)); have hz2 : w4.cell? ⟨w.heap.size + 1, 1, none⟩ = some (.slice (some ⟨g, 0, none⟩) l.length cap) := (blk_cell n0_.out 1).trans rfl; clear HG HM HB HR hz1 hp hh hs ht hbe; have HG := n0_; have HM := n1_; have HB := n2_; have HR := n3_; clear n0_ n1_ n2_ n3_)))
  have hcc := compact_ints (l := ys) HR.out.1 (by rw [HP.out.length_eq]; exact HR.out.2.1) (by rw [HP.out.length_eq]; omega) (by rw [HP.out.length_eq]; exact HR.out.2.2) cap (by rw [HP.out.length_eq]; exact HCAP.out)
  rw [HP.out.length_eq] at hcc
  have HCC := Aside0.mk hcc
  clear hcc
  have hf2 := blk_frozen HG.out 1
  go_upto_region 5 with (first
    | (go_at_call 163; ((with_reducible refine HCC.out.mono ?_); rintro e w5 ⟨zs, cur5, rfl, hmem, hle, hh, ht, hbe⟩; have HZ := Aside0.mk (show ∀ x, x ∈ zs ↔ x ∈ l from fun x => (hmem x).trans HP.out.mem_iff); have n0_ := Aside0.mk ((hbe.block _ (by have := HGL.out; omega) (blk_lt HG.out)).trans HG.out); have n1_ := Aside0.mk ((hbe.block _ (by have := HGL.out; omega) (blk_lt HM.out)).trans HM.out); have n2_ := Aside0.mk (hbe.below HB.out (by have := HGL.out; omega)); have n3_ := Aside0.mk (And.intro hh ht); have hz3 : w5.cell? ⟨w.heap.size + 1, 1, none⟩ = some (.slice (some ⟨g, 0, none⟩) l.length cap) := (blk_cell n0_.out 1).trans rfl; have hf3 := blk_frozen n0_.out 1; have hzl : zs.length ≤ 24 := (by omega); clear HG HM HB HR HCC hz2 hf2 hmem hle hh ht hbe; have HG := n0_; have HM := n1_; have HB := n2_; have HR := n3_; clear n0_ n1_ n2_ n3_)))
  have n0_ := Aside0.mk (blk_put HG.out 1 (.slice (some ⟨g, 0, none⟩) zs.length cap) (cs' := mkC l.length (.slice (some ⟨g, 0, none⟩) zs.length cap) w.heap.size) rfl)
  have n1_ := Aside0.mk (show (w5.setCell ⟨w.heap.size + 1, 1, none⟩ (.slice (some ⟨g, 0, none⟩) zs.length cap)).heap[w.heap.size]? = _ from (Below.heap_setCell w5 _ _ _ (by simp)).trans HM.out)
  have n2_ := Aside0.mk (below_set HB.out (g := w.heap.size + 1) (j := 1) (v := .slice (some ⟨g, 0, none⟩) zs.length cap) (by omega))
  have n3_ := Aside0.mk (And.intro (blk_far HR.out.1 (p := ⟨w.heap.size + 1, 1, none⟩) (by simp only; have := HGL.out; omega) (.slice (some ⟨g, 0, none⟩) zs.length cap)) HR.out.2)
  clear HG HM HB HR hz3 hf3
  generalize w5.setCell ⟨w.heap.size + 1, 1, none⟩ (.slice (some ⟨g, 0, none⟩) zs.length cap) = w6 at n0_ n1_ n2_ n3_ ⊢
  have HG := n0_
  have HM := n1_
  have HB := n2_
  have HR := n3_
  clear n0_ n1_ n2_ n3_
  have hz1 : w6.cell? ⟨w.heap.size + 1, 1, none⟩ = some (.slice (some ⟨g, 0, none⟩) zs.length cap) := (blk_cell HG.out 1).trans rfl
  have HBASE := Aside0.mk (show w.heap.size + 1 < w6.heap.size ∧ g < w6.heap.size from ⟨blk_lt HG.out, blk_lt HR.out.1⟩)
  have HMM := Aside0.mk (MaskMap.made HM.out w6.heap.size)
  go_wp2_with fail
  generalize hbs : w6.heap.size = bs at HBASE HMM
  have HCUR := Aside0.mk HR.out.2
  have HR1 := Aside0.mk HR.out.1
  have HBS := Aside0.mk (Nat.le_of_eq hbs.symm)
  clear hbs
  clear hz1 HR HM
  go_loopw [36] (fun v36 wr => ∃ (k : Nat) (D : DataW Unit) (G : Int → Nat), k ≤ zs.length ∧ v36 = .int .i64 k ∧ Aside0 (Below w.heap.size w wr) ∧ Aside0 (wr.heap[w.heap.size + 1]? = some (.cells (mkC l.length (.slice (some ⟨g, 0, none⟩) zs.length cap) w.heap.size) 231 (0, 0))) ∧ Aside0 (wr.heap[g]? = some (.cells cur5 3 (0, 0))) ∧ Aside0 (MaskMap wr w.heap.size bs k (fun x => (zs.take k).contains x) (fun _ => 0) D G) ∧ Aside0 (bs ≤ wr.heap.size)) (fun v36 _ => zs.length - (intOf v36).toNat)
  case atStart => exact ⟨0, _, _, by omega, rfl, HB, HG, HR1, ⟨HMM.out.congr (fun x => by simp) (fun _ _ => rfl)⟩, HBS⟩
  case round =>
    clear HB HG HR1 HMM HBS
    obtain ⟨k, D, G, hk, rfl, HB, HG, HR, HMM, HBS⟩ := hrel
    by_cases hlt : k < zs.length
    · have hx : wr.cell? ⟨g, k, none⟩ = some (.int .i64 (rd zs k)) := by
        refine (blk_cell HR.out k).trans ?_
        have h1 : (cur5.toList.take zs.length)[k]? = (zs.map (Value.int .i64))[k]? := by rw [HCUR.out]
        rw [List.getElem?_take, if_pos hlt, Array.getElem?_toList] at h1
        rw [h1]
        simp [rd, hlt]
      have HT := Aside0.mk (rd_take hlt)
      have HWX := Aside0.mk (HW.out _ ((HZ.out _).1 (rd_mem hlt)))
      generalize rd zs k = x at hx HT HWX
      have hc0 : (0 : Int) ≤ (k : Int) := by omega
      have hc1 : (k : Int) < (zs.length : Int) := by omega
      have hz0 : wr.cell? ⟨w.heap.size + 1, 0, none⟩ = some (.int .i64 l.length) := (blk_cell HG.out 0).trans rfl
      have hz2 : wr.cell? ⟨w.heap.size + 1, 2, none⟩ = some (.map (some w.heap.size)) := (blk_cell HG.out 2).trans rfl
      have hmk := make196
      have HWD := Aside0.mk (vec_Words.small l.length h0 h1)
      go_upto_region 8 with fail
      have HBd := Aside0.mk (below_drew (below_alloc (Below.refl wr.heap.size wr) (Obj.cells #[Value.int IntKind.u64 0] 233)))
      obtain ⟨w8, hrun, hMM, hgr⟩ := (HMM.out.below HBd.out).put (by omega) HWX.out (g := wr.heap.size) (alloc_at wr _) HBS.out (fun y hy => Nat.ne_of_lt (blk_lt (HMM.out.row y hy)))
      have HMM8 := Aside0.mk hMM
      have HB8 := Aside0.mk ((below_step HB.out HBd.out).grown hgr (by have := HB.out.size; have := HBd.out.size; omega) (fun j hj => by cases hj; exact Nat.le_refl _))
      have HG8 := Aside0.mk (blk_grown (blk_below HG.out HBd.out) hgr (by simp))
      have HR8 := Aside0.mk (blk_grown (blk_below HR.out HBd.out) hgr (by intro e; injection e with e; have := HGL.out; omega))
      have HS8 := Aside0.mk (show bs ≤ w8.heap.size from Nat.le_trans HBS.out (Nat.le_trans HBd.out.size hgr.size))
      have hy0 : w8.cell? ⟨w.heap.size + 1, 0, none⟩ = some (.int .i64 l.length) := (blk_cell HG8.out 0).trans rfl
      have hy2 : w8.cell? ⟨w.heap.size + 1, 2, none⟩ = some (.map (some w.heap.size)) := (blk_cell HG8.out 2).trans rfl
      clear hMM hgr
      go_region_held3 (fun W => W.cell? ⟨w.heap.size + 1, 0, none⟩ = some (.int .i64 l.length) ∧ W.cell? ⟨w.heap.size + 1, 2, none⟩ = some (.map (some w.heap.size))) (first | trivial | exact ⟨hz0, hz2⟩ | exact ⟨hy0, hy2⟩ | go_keep) (first
        | (go_at_call 164; (with_reducible refine (HWD.out _).mono ?_); rintro e w7 ⟨rfl, rfl⟩))
      go_wp2
      go_roundw
      case rel => exact ⟨k + 1, _, _, by omega, by go_num, HB8, HG8, HR8, ⟨HMM8.out.congr (fun y => by rw [HT.out]; rw [Bool.eq_iff_iff]; simp [or_comm]) (fun _ _ => rfl)⟩, HS8⟩
      case measure => simp [intOf]; omega
    · obtain rfl : k = zs.length := by omega
      go_wp2_with fail
      have HM0 := Aside0.mk (HMM.out.congr (S' := fun x => zs.contains x) (val' := fun x => maskN x (l.take 0)) (fun x => by rw [List.take_length]) (fun x _ => by simp [maskN, numB]))
      have HRB := Aside0.mk (show w.heap.size < bs by have := HBASE.out.1; omega)
      clear HMM
      go_loopw [54] (fun v54 wr => ∃ (j : Nat), j ≤ l.length ∧ v54 = .int .i64 j ∧ Aside0 (Below w.heap.size w wr) ∧ Aside0 (wr.heap[w.heap.size + 1]? = some (.cells (mkC l.length (.slice (some ⟨g, 0, none⟩) zs.length cap) w.heap.size) 231 (0, 0))) ∧ Aside0 (MaskMap wr w.heap.size bs zs.length (fun x => zs.contains x) (fun x => maskN x (l.take j)) D G)) (fun v54 _ => l.length - (intOf v54).toNat)
      case atStart => exact ⟨0, by omega, rfl, HB, HG, HM0⟩
      case round =>
        clear HB HG HR HM0 HBS
        obtain ⟨j, hj, rfl, HB, HG, HM⟩ := hrel
        by_cases hlt : j < l.length
        · obtain ⟨ad, rfl, hx⟩ := Kd.at_int (Kd.C_below H.out HB.out) (j : Int) (by omega) (by omega)
          rw [Int.toNat_natCast] at hx
          have HT := Aside0.mk (rd_take hlt)
          have HWX := Aside0.mk (HW.out _ (rd_mem hlt))
          have HSX := Aside0.mk (show zs.contains (rd l j) = true by rw [List.contains_iff_mem]; exact (HZ.out _).2 (rd_mem hlt))
          generalize rd l j = x at hx HT HWX HSX
          have hc0 : (0 : Int) ≤ (j : Int) := by omega
          have hc1 : (j : Int) < (l.length : Int) := by omega
          have hz0 : wr.cell? ⟨w.heap.size + 1, 0, none⟩ = some (.int .i64 l.length) := (blk_cell HG.out 0).trans rfl
          have hz2 : wr.cell? ⟨w.heap.size + 1, 2, none⟩ = some (.map (some w.heap.size)) := (blk_cell HG.out 2).trans rfl
          have hlook := HM.out.look HWX.out
          rw [if_pos HSX.out] at hlook
          have hrow := HM.out.row x HSX.out
          have hz3 : wr.cell? ⟨G x, 0, none⟩ = some (.int .u64 (maskN x (l.take j) : Nat)) := (blk_cell hrow 0).trans rfl
          have hf3 := blk_frozen hrow 0
          have HROW := Aside0.mk hrow
          clear hrow
          have hq : (j : Int) / 64 = 0 := by omega
          have hr : (j : Int) % 64 = j := by omega
          have HWD := Aside0.mk (vec_Words.small l.length h0 h1)
          go_wp2_with (first
            | (go_at_call 164; (with_reducible refine (HWD.out _).mono ?_); rintro e w7 ⟨rfl, rfl⟩))
          have HE := Aside0.mk (or_bit x (l.take j) j (by rw [List.length_take]; omega) (by omega))
          rw [HE.out, ← HT.out]
          refine ⟨⟨j + 1, by omega, by go_num, ⟨below_set HB.out (by have := HM.out.base x HSX.out; have := HRB.out; omega)⟩, ⟨blk_far HG.out (p := ⟨G x, 0, none⟩) (by have := HM.out.base x HSX.out; have := HBASE.out.1; simp only; omega) _⟩, ⟨(HM.out.store HSX.out (maskN x (l.take (j + 1))) HRB.out).congr (fun _ => rfl) (fun y hy => ?_)⟩⟩, ?_⟩
          · by_cases e : y = x
            · rw [if_pos e, e]
            · rw [if_neg e, HT.out, maskN_snoc_other e]
          · simp [intOf]; omega
        · obtain rfl : j = l.length := by omega
          have HT := Aside0.mk (show l.take l.length = l from List.take_length)
          rw [HT.out] at HM
          go_wp2
          go_ret
          exact ⟨w.heap.size + 1, w.heap.size, rfl, ⟨_, bs, zs.length, _, D, G, HG.out, HM.out, fun x hx => by rw [List.contains_iff_mem]; exact (HZ.out x).2 hx⟩, HB.out⟩
end Go.Proofs.YtdiojfaenfggkaaGreat.PTopNear
namespace Go.Proofs.YtdiojfaenfggkaaGreat.PTopNear
open Go.RowKit Go.Proofs.YtdiojfaenfggkaaGreatW.PrintWords Go.Proofs.YtdiojfaenfggkaaGreatW.PrintLast Go.Proofs.YtdiojfaenfggkaaGreatW.PrintMore
attribute [local go_sem] max2_int min2_int max_two min_two max_three min_three max_four min_four
set_option linter.unusedVariables false
set_option linter.unusedSimpArgs false
theorem MasksAt.below {w W : World} {mb rb : Nat} {l : List Int} (h : MasksAt w mb rb l) (hb : Below w.heap.size w W) : MasksAt W mb rb l := by
  obtain ⟨sl, base, k, S, D, G, h1, h2, h3⟩ := h
  exact ⟨sl, base, k, S, D, G, blk_below h1 hb, h2.below hb, h3⟩
theorem maskN_none (x : Int) : ∀ l : List Int, x ∉ l → maskN x l = 0
  | [], _ => rfl
  | y :: l, h => by
    have h1 : x ≠ y := fun e => h (by rw [e]; exact List.mem_cons_self ..)
    have h2 := maskN_none x l (fun hx => h (List.mem_cons_of_mem _ hx))
    unfold maskN at *
    simp only [List.map_cons, numB, h2, decide_eq_false h1]
    rfl
theorem mask_and (x : Int) (l : List Int) (hl : l.length ≤ 24) : Go.bits .and .u64 ((maskN x l : Nat) : Int) (((2 ^ l.length - 1 : Nat)) : Int) = ((maskN x l : Nat) : Int) := by
  have hp : (2 : Nat) ^ l.length ≤ 2 ^ 24 := Nat.pow_le_pow_right (by decide) hl
  have hm := maskN_lt x l
  rw [bits_and_u64_nat _ _ (by omega) (by omega), Nat.and_two_pow_sub_one_eq_mod, Nat.mod_eq_of_lt hm]
set_option maxHeartbeats 4000000 in
set_option maxRecDepth 100000 in
theorem masks_Of.calls (mb rb : Nat) (l : List Int) (x : Int) (w : World) (hM : MasksAt w mb rb l) (h0 : 1 ≤ l.length) (h1 : l.length ≤ 24) (hx : (Lit.int .i64 x).wf = true) :
    Calls Tryz.prog 129 #[.pointer (some ⟨mb, 0, none⟩), .int .i64 x] w fun e w' => ∃ v, e = .returned v ∧ (Kd.int .u64).R 233 w' w.heap.size (fun _ => True) v [((maskN x l : Nat) : Int)] ∧ Below w.heap.size w w' := by
  obtain ⟨sl, base, k, S, D, G, hg, hm, hs⟩ := hM
  have hz0 : w.cell? ⟨mb, 0, none⟩ = some (.int .i64 l.length) := (blk_cell hg 0).trans rfl
  have hz2 : w.cell? ⟨mb, 2, none⟩ = some (.map (some rb)) := (blk_cell hg 2).trans rfl
  obtain ⟨q1, q2⟩ := vec_small l.length h0 h1
  have hlook := fun W (hb : Below w.heap.size w W) => (hm.below hb).look hx
  obtain ⟨v, hv, hf⟩ : ∃ v, (∀ W, Below w.heap.size w W → (Instr.lookup 229 (.map (some rb)) (.int .i64 x) false).run Tryz.prog W = .ok v W) ∧ ∀ W, Below w.heap.size w W → Calls Tryz.prog 168 #[v, .int .i64 l.length] W fun e w' => ∃ v, e = .returned v ∧ (Kd.int .u64).R 233 w' W.heap.size (fun _ => True) v [((maskN x l : Nat) : Int)] ∧ Below W.heap.size W w' := by
    cases hS : S x
    · refine ⟨.slice none 0 0, fun W hb => by rw [hlook W hb, hS]; rfl, fun W hb => ?_⟩
      have h := vec_Fit.row none 0 [] 0 _ _ W (Kd.C_nil _ _) (Nat.le_refl _) (by simp [vec_at.f]) q1 q2
      have e0 : maskN x l = 0 := maskN_none x l (fun hx => by rw [hs x hx] at hS; cases hS)
      have e1 := mask_and x l h1
      rw [e0] at e1 ⊢
      rw [show (0 : Int) = ((0 : Nat) : Int) from rfl, e1] at h
      exact h
    · refine ⟨.slice (some ⟨G x, 0, none⟩) 1 1, fun W hb => by rw [hlook W hb, hS]; rfl, fun W hb => ?_⟩
      have h := vec_Fit.one (some ⟨G x, 0, none⟩) 1 ((maskN x l : Nat) : Int) _ _ W (Kd.C_of_reads (d := (0 : Int)) (h1 := fun _ => rfl) ⟨rfl, by simp, fun _ => ⟨_, rfl, fun i hi => by
        obtain rfl : i = 0 := by omega
        rw [add_plain]
        exact (blk_cell ((hm.below hb).row x hS) 0).trans rfl⟩⟩) (Nat.le_refl _) q1 q2
      rw [mask_and x l h1] at h
      exact h
  have HF := Aside0.mk hf
  have HV := Aside0.mk hv
  clear hg hm hs hlook hf hv q1 q2 D G S
  have HBd := Aside0.mk (below_drew (Below.refl w.heap.size w))
  have hrun := HV.out _ HBd.out
  go_enter Tryz.func129, Tryz.ntmps129
  go_upto_region 1 with fail
  go_region_held3 (fun W => W.cell? ⟨mb, 0, none⟩ = some (.int .i64 l.length) ∧ W.cell? ⟨mb, 2, none⟩ = some (.map (some rb))) (first | trivial | exact ⟨hz0, hz2⟩ | go_keep) (first
    | (go_at_call 168; (with_reducible refine (HF.out _ HBd.out).mono ?_); rintro e w7 ⟨v7, rfl, hv, hb⟩; have HV7 := Aside0.mk hv; have HB7 := Aside0.mk hb; have hz7 := And.intro (pw_cell_below (below_step HBd.out hb) hz0) (pw_cell_below (below_step HBd.out hb) hz2); clear hv hb))
  go_wp2
  go_ret
  exact ⟨v7, rfl, Kd.R_lower HV7.out HBd.out.size, below_step HBd.out HB7.out⟩
end Go.Proofs.YtdiojfaenfggkaaGreat.PTopNear
namespace Go.Proofs.YtdiojfaenfggkaaGreat.PTopNear
open Go.RowKit Go.Proofs.YtdiojfaenfggkaaGreatW.PrintWords Go.Proofs.YtdiojfaenfggkaaGreatW.PrintLast Go.Proofs.YtdiojfaenfggkaaGreatW.PrintMore
attribute [local go_sem] max2_int min2_int max_two min_two max_three min_three max_four min_four
set_option linter.unusedVariables false
set_option linter.unusedSimpArgs false
def encW (p : Nat × Nat) : Value := .slice (some ⟨p.1, 0, none⟩) 1 p.2
theorem encW_one (p : Nat × Nat) : (encW p).oneCell' = true := rfl
def kW : Kd (Nat × Nat) := Kd.scalar encW encW_one
def WordAt (W : World) (p : Nat × Nat) (N : Nat) : Prop := 1 ≤ p.2 ∧ ∃ cur, W.heap[p.1]? = some (.cells cur 233 (0, 0)) ∧ cur[0]? = some (.int .u64 (N : Nat))
theorem wordAt_of {w : World} {base : Nat} {ok : Nat → Prop} {v : Value} {N : Nat} (h : (Kd.int .u64).R 233 w base ok v [(N : Int)]) : ∃ p, v = encW p ∧ WordAt w p N := by
  rcases (Kd.own_of_R h).2 with ⟨_, hn⟩ | ⟨g, cap, cur, rfl, hb, hh, hnc, hcm, hcs, ht⟩
  · simp at hn
  · refine ⟨(g, cap), rfl, hnc, cur, hh, ?_⟩
    have h1 : (cur.toList.take 1)[0]? = ([Value.int .u64 (N : Int)] : List Value)[0]? := by
      have : cur.toList.take 1 = [Value.int .u64 (N : Int)] := by simpa [encs] using ht
      rw [this]
    rw [List.getElem?_take, if_pos (by omega), Array.getElem?_toList] at h1
    exact h1
theorem WordAt.grown {w W : World} {p : Nat × Nat} {N : Nat} (h : WordAt w p N) {row : Option Nat} (hg : w.grownBy W row) (hr : ∀ k, row = some k → ∃ cells t, w.heap[k]? = some (.cells cells t (0, 0)) ∧ t ≠ 233) : WordAt W p N := by
  obtain ⟨h1, cur, h2, h3⟩ := h
  refine ⟨h1, cur, blk_grown h2 hg (fun e => ?_), h3⟩
  obtain ⟨cells, t, hc, hne⟩ := hr _ e.symm
  rw [h2] at hc
  injection hc with hc
  injection hc with _ hc
  exact hne hc.symm
theorem WordAt.below {w W : World} {p : Nat × Nat} {N : Nat} (h : WordAt w p N) (hb : Below w.heap.size w W) : WordAt W p N := h.grown (grown_of_below hb none) (fun k e => by cases e)
theorem WordAt.reads {w : World} {p : Nat × Nat} {N : Nat} (h : WordAt w p N) : Kd.C (Kd.int .u64) w (some ⟨p.1, 0, none⟩) 1 [(N : Int)] := by
  obtain ⟨h1, cur, h2, h3⟩ := h
  refine Kd.C_of_reads (d := (0 : Int)) (h1 := fun _ => rfl) ⟨rfl, by simp, fun _ => ⟨_, rfl, fun i hi => ?_⟩⟩
  obtain rfl : i = 0 := by omega
  rw [add_plain]
  exact (blk_cell h2 0).trans h3
def WordsAt (W : World) (ks : List (Nat × Nat)) (f : Nat → Nat) : Prop := ∀ q p, ks[q]? = some p → WordAt W p (f q)
theorem WordsAt.grown {w W : World} {ks : List (Nat × Nat)} {f : Nat → Nat} (h : WordsAt w ks f) {row : Option Nat} (hg : w.grownBy W row) (hr : ∀ k, row = some k → ∃ cells t, w.heap[k]? = some (.cells cells t (0, 0)) ∧ t ≠ 233) : WordsAt W ks f := fun q p hq => (h q p hq).grown hg hr
theorem WordsAt.below {w W : World} {ks : List (Nat × Nat)} {f : Nat → Nat} (h : WordsAt w ks f) (hb : Below w.heap.size w W) : WordsAt W ks f := fun q p hq => (h q p hq).below hb
theorem WordsAt.snoc {W : World} {ks : List (Nat × Nat)} {f : Nat → Nat} (h : WordsAt W ks f) {p : Nat × Nat} (hp : WordAt W p (f ks.length)) : WordsAt W (ks ++ [p]) f := fun q p' hq => by
  by_cases e : q < ks.length
  · rw [List.getElem?_append_left e] at hq; exact h q p' hq
  · rw [List.getElem?_append_right (by omega)] at hq
    have e2 : q - ks.length = 0 := by
      have := (List.getElem?_eq_some_iff.1 hq).1
      simp at this; omega
    rw [e2] at hq
    obtain rfl : p = p' := by simpa using hq
    rwa [show q = ks.length by omega]
theorem row_typed {α : Type} {d : Kd α} {e : Nat} {w : World} {base : Nat} {ok : Nat → Prop} {v : Value} {xs : List α} (h : d.R e w base ok v xs) (he : e ≠ 233) : ∀ k, v.ownBlock = some k → ∃ cells t, w.heap[k]? = some (.cells cells t (0, 0)) ∧ t ≠ 233 := fun k hk => by
  obtain ⟨cells, hc⟩ := Kd.R_typed h k hk
  exact ⟨cells, e, hc, he⟩
theorem mrow_mask (a b : List Int) (i : Nat) : numB (mrow a b i) = maskN (rd a i) b := by
  unfold mrow maskN
  congr 1
  refine List.ext_getElem (by simp) fun j h1 h2 => ?_
  have hj : j < b.length := by simpa using h2
  simp [mbit, rd, hj]
def VN (a b : List Int) (i : Nat) : Nat := numB (vrow a b i)
theorem VN_lt (a b : List Int) (i : Nat) (hb : b.length ≤ 24) : VN a b i < 18446744073709551616 := by
  have h := numB_lt (vrow a b i)
  have hp : (2 : Nat) ^ b.length ≤ 2 ^ 24 := Nat.pow_le_pow_right (by decide) hb
  rw [vrow_len] at h
  unfold VN; omega
theorem VN_next (a b : List Int) (i : Nat) (hi : i < a.length) (hb : b.length ≤ 24) : hyN (2 ^ b.length - 1) (VN a b i) (maskN (rd a i) b) = VN a b (i + 1) := by
  rw [← mrow_mask]; exact hyN_vrow a b i hi hb
theorem next_word (W : World) (p : Nat × Nat) (a b : List Int) (i : Nat) (hi : i < a.length) (h0 : 1 ≤ b.length) (h1 : b.length ≤ 24) (hp : WordAt W p (VN a b i)) (v : Value) (base : Nat) (ok : Nat → Prop) (hv : (Kd.int .u64).R 233 W base ok v [((maskN (rd a i) b : Nat) : Int)]) :
    Calls Tryz.prog 128 #[.int .i64 0, .slice (some ⟨p.1, 0, none⟩) 1 p.2, v, .int .i64 b.length] W fun e w' => ∃ q, e = .returned (.slice (some ⟨q.1, 0, none⟩) 1 q.2) ∧ WordAt w' q (VN a b (i + 1)) ∧ Below W.heap.size W w' := by
  obtain ⟨A, c, rfl, hc, hr⟩ := one_C hv
  obtain ⟨q1, q2⟩ := vec_small b.length h0 h1
  have hp2 : (2 : Nat) ^ b.length ≤ 2 ^ 24 := Nat.pow_le_pow_right (by decide) h1
  have hm := maskN_lt (rd a i) b
  have h := walk_row.one (some ⟨p.1, 0, none⟩) A p.2 c (VN a b i) (maskN (rd a i) b) (2 ^ b.length - 1) b.length W hp.reads hp.1 hr hc (VN_lt a b i h1) (by omega) (by omega) q1 q2
  rw [VN_next a b i hi h1] at h
  refine h.mono fun e w' ⟨v, he, hv, hb⟩ => ?_
  obtain ⟨q, rfl, hq⟩ := wordAt_of hv
  exact ⟨q, he, hq, hb⟩
theorem first_word (b : List Int) (a : List Int) (h0 : 1 ≤ b.length) (h1 : b.length ≤ 24) (W : World) : Calls Tryz.prog 127 #[.int .i64 b.length] W fun e w' => ∃ q, e = .returned (.slice (some ⟨q.1, 0, none⟩) 1 q.2) ∧ WordAt w' q (VN a b 0) ∧ Below W.heap.size W w' := by
  obtain ⟨q1, q2⟩ := vec_small b.length h0 h1
  have hp2 : (2 : Nat) ^ b.length ≤ 2 ^ 24 := Nat.pow_le_pow_right (by decide) h1
  have h := vec_Ones.one _ _ W q1 q2
  have e : Go.bits .and .u64 18446744073709551615 (((2 ^ b.length - 1 : Nat)) : Int) = ((VN a b 0 : Nat) : Int) := by
    rw [show (18446744073709551615 : Int) = ((18446744073709551615 : Nat) : Int) from rfl, bits_and_u64_nat _ _ (by omega) (by omega)]
    unfold VN
    rw [vrow_zero, numB_ones]
    congr 1
    rw [Nat.and_comm, show (18446744073709551615 : Nat) = 2 ^ 64 - 1 from rfl, Nat.and_two_pow_sub_one_eq_mod, Nat.mod_eq_of_lt (by omega)]
  rw [e] at h
  refine h.mono fun e w' ⟨v, he, hv, hb⟩ => ?_
  obtain ⟨q, rfl, hq⟩ := wordAt_of hv
  exact ⟨q, he, hq, hb⟩
theorem get_word (W : World) (p : Nat × Nat) (a b : List Int) (i j : Nat) (hj : j < b.length) (h1 : b.length ≤ 24) (hp : WordAt W p (VN a b i)) :
    Calls Tryz.prog 130 #[.slice (some ⟨p.1, 0, none⟩) 1 p.2, .int .i64 j] W fun e w' => e = .returned (.bool (vbit a b i j)) ∧ Drawn0 W w' := by
  have hbit : (numB (vrow a b i)).testBit j = vbit a b i j := by
    rw [numB_bit]
    unfold vrow
    simp [List.getD_eq_getElem?_getD, hj]
  have hlt := VN_lt a b i h1
  refine vec_Get.calls (some ⟨p.1, 0, none⟩) p.2 [((VN a b i : Nat) : Int)] j (vbit a b i j) W hp.reads hp.1 ?_
  have e1 : wrap64 (Int.tdiv (j : Int) 64) = 0 := by rw [Int.tdiv_eq_ediv_of_nonneg (by omega)]; rw [wrap_in (by omega) (by omega)]; omega
  have e2 : IntKind.u64.wrap (Int.tmod (j : Int) 64) = j := by rw [Int.tmod_eq_emod_of_nonneg (by omega), IntWalk.u64_in _ (by omega)]; omega
  unfold vec_Get.f vec_inside.f
  rw [if_pos (by omega), e1, e2]
  simp only [List.length_cons, List.length_nil]
  rw [show decide ((0 : Int) < ((0 + 1 : Nat) : Int)) = true from rfl]
  simp only [Option.bind_some, if_true]
  rw [if_pos (by omega), if_pos (by omega), if_pos (by omega)]
  congr 1
  have e3 : shr .u64 (rd [((VN a b i : Nat) : Int)] 0) (j : Int) = ((VN a b i >>> j : Nat) : Int) := by
    unfold shr
    rw [show rd [((VN a b i : Nat) : Int)] 0 = ((VN a b i : Nat) : Int) from rfl, Int.toNat_natCast, Nat.min_eq_left (show j ≤ IntKind.u64.bits by show j ≤ 64; omega), Nat.shiftRight_eq_div_pow]
    push_cast
    rfl
  have hs : VN a b i >>> j ≤ VN a b i := by rw [Nat.shiftRight_eq_div_pow]; exact Nat.div_le_self _ _
  rw [e3, show (1 : Int) = ((1 : Nat) : Int) from rfl, bits_and_u64_nat _ _ (by omega) (by omega)]
  rw [← hbit]
  unfold Nat.testBit VN
  rw [Nat.and_comm]
  generalize numB (vrow a b i) >>> j = x
  rw [Bool.eq_iff_iff, beq_iff_eq, bne_iff_ne]
  have : 1 &&& x = x % 2 := by rw [Nat.and_comm]; exact Nat.and_one_is_mod x
  rw [this]
  have h2 : x % 2 < 2 := Nat.mod_lt _ (by decide)
  constructor
  · intro h; have : x % 2 = 1 := by exact_mod_cast h
    omega
  · intro h; have : x % 2 = 1 := by omega
    rw [this]
end Go.Proofs.YtdiojfaenfggkaaGreat.PTopNear
namespace Go.Proofs.YtdiojfaenfggkaaGreat.PTopNear
open Go.RowKit Go.Proofs.YtdiojfaenfggkaaGreatW.PrintWords Go.Proofs.YtdiojfaenfggkaaGreatW.PrintLast Go.Proofs.YtdiojfaenfggkaaGreatW.PrintMore
attribute [local go_sem] max2_int min2_int max_two min_two max_three min_three max_four min_four
set_option linter.unusedVariables false
set_option linter.unusedSimpArgs false
def api_Pair.l0 : Nat → List (S54) → Int → Int → Option ((List (S54)))
 | 0, _, _, _ => none
 | k + 1, x0, x2, x3 => if x2 < x3 then (if 0 ≤ x3 then (if x3 < (x0.length : Int) then (if 0 ≤ x2 then (if x2 < (x0.length : Int) then (api_Pair.l0 k ((x0.set (x2 : Int).toNat (⟨(rd_T54 x0 x3).f0, (rd_T54 x0 x3).f1⟩ : S54)).set (x3 : Int).toNat (⟨(rd_T54 x0 x2).f0, (rd_T54 x0 x2).f1⟩ : S54)) (wrap64 (x2 + 1)) (wrap64 (x3 - 1))) else (none)) else (none)) else (none)) else (none)) else (some x0)
def api_Pair.f (k : Nat) (l0 : List (S54)) : Option ((List (S54))) := api_Pair.l0 k l0 0 (wrap64 ((l0.length : Int) - 1))
theorem api_Pair.mono_l : ∀ k, (∀ y0 y1 y2, LeO (api_Pair.l0 k y0 y1 y2) (api_Pair.l0 (k + 1) y0 y1 y2))
 | 0 => fun _ _ _ r h => by simp [api_Pair.l0] at h
 | k + 1 => by
  have ih0 := api_Pair.mono_l k
  ·intro y0 y1 y2
   unfold api_Pair.l0
   repeat' first
   | (with_reducible exact ih0 _ _ _)
   | (with_reducible exact LeO.refl _)
   | (with_reducible exact LeO.none _)
   | (with_reducible refine LeO.ite ?_ ?_)
   | (with_reducible refine LeO.bind ?_ (fun _ => ?_))
   | exact ih0 _ _ _
   | exact LeO.none _
   | refine LeO.ite ?_ ?_
   | refine LeO.bind ?_ (fun _ => ?_)
theorem api_Pair.mono : ∀ a0 k, LeO (api_Pair.f k a0) (api_Pair.f (k + 1) a0) := by
 intro a0 k
 have ih0 := api_Pair.mono_l k
 unfold api_Pair.f
 repeat' first
   | (with_reducible exact ih0 _ _ _)
   | (with_reducible exact LeO.refl _)
   | (with_reducible exact LeO.none _)
   | (with_reducible refine LeO.ite ?_ ?_)
   | (with_reducible refine LeO.bind ?_ (fun _ => ?_))
   | exact ih0 _ _ _
   | exact LeO.none _
   | refine LeO.ite ?_ ?_
   | refine LeO.bind ?_ (fun _ => ?_)
def api_Pair.T3 : Bool × List (List Nat × List Nat) := (true, [([], []), ([], []), ([], []), ([], []), ([], []), ([], []), ([4, 5], [4, 5]), ([6], [6]), ([], []), ([], []), ([8, 9], [8, 9]), ([10], [10]), ([0, 1, 0, 1, 4, 5, 6, 7, 11], [0, 1]), ([12, 7, 0, 1, 4, 5, 6, 7, 11], [7, 12]), ([2, 3, 0, 1, 2, 3, 4, 5, 6, 7, 8, 9, 10, 11, 12, 13], [2, 3]), ([14, 11, 13, 0, 1, 2, 3, 4, 5, 6, 7, 8, 9, 10, 11, 12, 13], [11, 14])])
def api_Pair.B3 : List Nat := [0, 0, 0, 0, 0, 0, 48, 112, 0, 0, 768, 1792, 4083, 8179, 16383, 32767]
theorem api_Pair.tab3 : rtab .any (opsOf Tryz.f117 3) = api_Pair.T3 := by kernel_rfl
theorem api_Pair.bits3 : waitsOk api_Pair.T3.2 api_Pair.B3 = true := by kernel_rfl
set_option maxHeartbeats 8000000 in
set_option maxRecDepth 100000 in
theorem api_Pair.calls (k : Nat) (P0_ : Nat → Prop) (u9000_ : Value) (l0 : List (S54)) (r : List (S54)) (w0 w : World) (hB : Below w0.heap.size w0 w) (ho0 : Kd.R k54 54 w w0.heap.size P0_ u9000_ l0) (h : api_Pair.f k l0 = some r) :
  Calls Tryz.prog 117 #[u9000_] w fun e w' => e = .returned (.tuple #[]) ∧ Kd.R k54 54 w' w0.heap.size (fun k_ => (P0_ k_ ∨ w.heap.size ≤ k_)) u9000_ r ∧ Below w0.heap.size w0 w' ∧ Kept w w' (fun k_ => P0_ k_) := by
 have hu54 := Tryz.underlying54
 have HO0 := Aside0.mk (show Kd.R k54 54 w w0.heap.size (fun k_ => (P0_ k_ ∨ w.heap.size ≤ k_)) u9000_ l0 from Kd.R_mono ho0 (fun k_ hk => (.inl hk)))
 have HK := Aside0.mk (Kept.refl w (fun k_ => P0_ k_))
 have HW0 := Aside0.mk hB.size
 have HB := Aside0.mk hB
 clear hB
 have H : (api_Pair.l0 k l0 0 (wrap64 ((l0.length : Int) - 1))) = some r := h
 clear h
 have H' := Aside0.mk H
 clear H
 obtain ⟨Ao2, co2, eo2⟩ := Kd.R_slice HO0.out
 subst eo2
 go_enter Tryz.func117, Tryz.ntmps117
 go_wp2
 go_loopg [2, 3] k (fun kq v2 v3 w' => ∃ (x0_1 : List (S54)) (x2_1 : Int) (x3_1 : Int), v2 = .int .i64 x2_1 ∧ v3 = .int .i64 x3_1 ∧ Aside0 (api_Pair.l0 kq x0_1 x2_1 x3_1 = some r) ∧ Aside0 (kq ≤ k) ∧ Aside0 (Kd.R k54 54 w' w0.heap.size (fun k_ => (P0_ k_ ∨ w.heap.size ≤ k_)) (.slice Ao2 l0.length co2) x0_1) ∧ Aside0 (Kept w w' (fun k_ => P0_ k_)) ∧ Aside0 (Below w0.heap.size w0 w'))
 case atStart => exact ⟨(l0), (0), (wrap64 ((l0.length : Int) - 1)), (by first | rfl | (simp; done) | (simp [*]; done)), (by first | rfl | (simp; done) | (simp [*]; done)), H', ⟨Nat.le_refl _⟩, ⟨by (with_reducible repeat (first | apply Kd.R_alloc | apply Kd.R_drewN | apply Kd.R_drew)); exact HO0.out⟩, ⟨by repeat (first | (with_reducible first | exact HK.out | apply Kept.alloc | apply Kept.drewN | apply Kept.drew) | exact HK.out)⟩, ⟨by repeat (first | (with_reducible first | exact HB.out | apply below_alloc | apply pw_below_drewN | apply below_drew1) | exact HB.out)⟩⟩
 case round =>
  clear H'
  try clear c1
  try clear p2
  obtain ⟨x0_1, x2_1, x3_1, rfl, rfl, HA, HK1, HO_0, HK, HB⟩ := hrel
  have hl0_1 := (Kd.R_reads' HO_0.out).1
  rw [hl0_1] at HO_0
  (try simp only [hl0_1])
  cases gk with
  | zero => exact absurd HA.out (by simp [api_Pair.l0])
  | succ k1 =>
   have H := HA.out
   clear HA
   simp only [api_Pair.l0] at H
   by_cases c3 : x2_1 < x3_1
   ·rw [if_pos c3] at H
    have c3b0 : decide (x2_1 < x3_1) = true := decide_eq_true c3
    clear c3
    by_cases c4 : 0 ≤ x3_1
    ·rw [if_pos c4] at H
     have c4b0 : decide (0 ≤ x3_1) = true := decide_eq_true c4
     clear c4
     by_cases c5 : x3_1 < (x0_1.length : Int)
     ·rw [if_pos c5] at H
      have c5b0 : decide (x3_1 < (x0_1.length : Int)) = true := decide_eq_true c5
      try (have c5b0zhl0_1 := c5b0; rw [hl0_1] at c5b0zhl0_1)
      clear c5
      by_cases c6 : 0 ≤ x2_1
      ·rw [if_pos c6] at H
       have c6b0 : decide (0 ≤ x2_1) = true := decide_eq_true c6
       clear c6
       by_cases c7 : x2_1 < (x0_1.length : Int)
       ·rw [if_pos c7] at H
        have c7b0 : decide (x2_1 < (x0_1.length : Int)) = true := decide_eq_true c7
        try (have c7b0zhl0_1 := c7b0; rw [hl0_1] at c7b0zhl0_1)
        clear c7
        obtain ⟨y337, hy337⟩ : ∃ y_ : List (S54), y_ = (x0_1.set (x2_1 : Int).toNat (⟨(rd_T54 x0_1 x3_1).f0, (rd_T54 x0_1 x3_1).f1⟩ : S54)) := ⟨_, rfl⟩
        replace H : (api_Pair.l0 k1 (y337.set (x3_1 : Int).toNat (⟨(rd_T54 x0_1 x2_1).f0, (rd_T54 x0_1 x2_1).f1⟩ : S54)) (wrap64 (x2_1 + 1)) (wrap64 (x3_1 - 1))) = some r := by first | (rw [hy337]; with_reducible exact H) | (have H2_ := (Option.bind_some _ _).symm.trans H; rw [hy337]; with_reducible exact H2_) | (have H2_ := (Option.bind_some _ _).symm.trans H; with_reducible exact H2_) | with_reducible exact H | (rw [hy337]; exact H) | exact H
        have Ny337 := Aside0.mk hy337
        clear hy337
        obtain ⟨y338, hy338⟩ : ∃ y_ : List (S54), y_ = (y337.set (x3_1 : Int).toNat (⟨(rd_T54 x0_1 x2_1).f0, (rd_T54 x0_1 x2_1).f1⟩ : S54)) := ⟨_, rfl⟩
        replace H : (api_Pair.l0 k1 y338 (wrap64 (x2_1 + 1)) (wrap64 (x3_1 - 1))) = some r := by first | (rw [hy338]; with_reducible exact H) | (have H2_ := (Option.bind_some _ _).symm.trans H; rw [hy338]; with_reducible exact H2_) | (have H2_ := (Option.bind_some _ _).symm.trans H; with_reducible exact H2_) | with_reducible exact H | (rw [hy338]; exact H) | exact H
        have Ny338 := Aside0.mk hy338
        clear hy338
        have H' := Aside0.mk H
        clear H
        try go_wp2
        have n0_ := Aside0.mk (Kd.R_drew HO_0.out)
        have n1_ := Aside0.mk (Kept.drew HK.out)
        have n2_ := Aside0.mk (below_drew1 HB.out)
        clear HO_0
        clear HK
        clear HB
        have HO_0 := n0_
        have HK := n1_
        have HB := n2_
        clear n0_ n1_ n2_
        have p335 : 0 ≤ (x3_1 : Int) := of_decide_eq_true (by first | (with_reducible assumption) | assumption)
        have q335 : x3_1 < (x0_1.length : Int) := of_decide_eq_true (by first | (with_reducible assumption) | assumption)
        try (obtain ⟨Ap335, cp335, ep335⟩ := Kd.R_slice HO_0.out; subst ep335)
        obtain ⟨ad335, e335, hx335_0, hx335_1⟩ := at_T54 (Kd.R_reads' HO_0.out).2.2 x3_1 p335 q335
        cases e335
        replace p335 := eq_true p335
        replace q335 := eq_true q335
        have p336 : 0 ≤ (x2_1 : Int) := of_decide_eq_true (by first | (with_reducible assumption) | assumption)
        have q336 : x2_1 < (x0_1.length : Int) := of_decide_eq_true (by first | (with_reducible assumption) | assumption)
        try (obtain ⟨Ap336, cp336, ep336⟩ := Kd.R_slice HO_0.out; subst ep336)
        obtain ⟨ad336, e336, hx336_0, hx336_1⟩ := at_T54 (Kd.R_reads' HO_0.out).2.2 x2_1 p336 q336
        obtain rfl : ad335 = ad336 := (by injection e336)
        replace p336 := eq_true p336
        replace q336 := eq_true q336
        have p8 : 0 ≤ (x2_1 : Int) := of_decide_eq_true (by first | (with_reducible assumption) | assumption)
        have q8 : (x2_1 : Int) < ((x0_1.length : Int) : Int) := of_decide_eq_true (by first | (with_reducible assumption) | assumption)
        obtain ⟨go8, co8, eo8, gb8, gl8, cl8, HG8⟩ := Kd.R_form HO_0.out (by omega)
        (first | cases eo8 | (injection eo8 with ea_ en_ ec_; (first | subst ea_ | (injection ea_ with ea_; subst ea_)); subst ec_; clear en_))
        have GB8 := Aside0.mk gb8
        have GG8 := Aside0.mk HG8
        clear gb8 gl8 HG8
        have HMgo8 := Aside0.mk (show (P0_ go8 ∨ w.heap.size ≤ go8) from (HO_0.out.1 _ rfl))
        (first | simp only [add_plain] at hx335_0 | skip)
        (first | simp only [add_plain] at hx335_1 | skip)
        (first | simp only [add_plain] at hx336_0 | skip)
        (first | simp only [add_plain] at hx336_1 | skip)
        obtain ⟨ce8, hcl8, hM8, hcc8, hfr8⟩ := Kd.R_elem HO_0.out z54 (x2_1 : Int) p8 q8
        obtain rfl := k54_openM hM8
        have hx8_0 : World.cell? _ ⟨go8, (x2_1 : Int).toNat * 2, none⟩ = some (.int .i64 ((rd_T54 x0_1 x2_1).f0)) := hcc8 0 _ rfl
        have hx8_1 : World.cell? _ ⟨go8, (x2_1 : Int).toNat * 2 + 1, none⟩ = some (.int .i64 ((rd_T54 x0_1 x2_1).f1)) := hcc8 1 _ rfl
        have hf8_0 : World.frozen? _ ⟨go8, (x2_1 : Int).toNat * 2, none⟩ = false := hfr8 0
        have hf8_1 : World.frozen? _ ⟨go8, (x2_1 : Int).toNat * 2 + 1, none⟩ = false := hfr8 1
        clear hcl8 hcc8 hfr8 hM8
        replace p8 := eq_true p8
        replace q8 := eq_true q8
        obtain ⟨ce11, hcl11, hM11, hcc11, hfr11⟩ := Kd.R_elem HO_0.out z54 (x2_1 : Int) (of_decide_eq_true (by first | (with_reducible assumption) | assumption)) (by have h_ : (x2_1 : Int) < ((x0_1.length : Int) : Int) := of_decide_eq_true (by first | (with_reducible assumption) | assumption); first | exact h_ | (have e_ := (Kd.R_reads' HO_0.out).1; omega) | simpa using h_)
        obtain rfl := k54_openM hM11
        have HP11 := (Kd.R_seg HO_0.out (x2_1 : Int) (of_decide_eq_true (by first | (with_reducible assumption) | assumption)) (by have h_ : (x2_1 : Int) < ((x0_1.length : Int) : Int) := of_decide_eq_true (by first | (with_reducible assumption) | assumption); first | exact h_ | (have e_ := (Kd.R_reads' HO_0.out).1; omega) | simpa using h_) (seg := [.int .i64 ((rd_T54 x0_1 x3_1).f0), .int .i64 ((rd_T54 x0_1 x3_1).f1)]) (j := 0) hcl11 hcc11 (show 2 ≤ 2 from by decide) (x' := (⟨(rd_T54 x0_1 x3_1).f0, (rd_T54 x0_1 x3_1).f1⟩ : S54)) (k54_mkM _ _ _ (⟨(rd_T54 x0_1 x3_1).f0, (rd_T54 x0_1 x3_1).f1⟩ : S54) ) (fun _ hk => hk)).1
        rw [← Ny337.out] at HP11
        have HQ11 := Aside0.mk HP11
        clear hcl11 hcc11 hfr11 hM11 HP11
        have p9 : 0 ≤ (x3_1 : Int) := of_decide_eq_true (by first | (with_reducible assumption) | assumption)
        have q9 : (x3_1 : Int) < ((x0_1.length : Int) : Int) := of_decide_eq_true (by first | (with_reducible assumption) | assumption)
        obtain ⟨ce9, hcl9, hM9, hcc9, hfr9⟩ := Kd.R_elem HQ11.out z54 (x3_1 : Int) p9 q9
        obtain rfl := k54_openM hM9
        have hx9_0 : World.cell? _ ⟨go8, (x3_1 : Int).toNat * 2, none⟩ = some (.int .i64 ((rd_T54 y337 x3_1).f0)) := hcc9 0 _ rfl
        have hx9_1 : World.cell? _ ⟨go8, (x3_1 : Int).toNat * 2 + 1, none⟩ = some (.int .i64 ((rd_T54 y337 x3_1).f1)) := hcc9 1 _ rfl
        have hf9_0 : World.frozen? _ ⟨go8, (x3_1 : Int).toNat * 2, none⟩ = false := hfr9 0
        have hf9_1 : World.frozen? _ ⟨go8, (x3_1 : Int).toNat * 2 + 1, none⟩ = false := hfr9 1
        clear hcl9 hcc9 hfr9 hM9
        replace p9 := eq_true p9
        replace q9 := eq_true q9
        obtain ⟨ce12, hcl12, hM12, hcc12, hfr12⟩ := Kd.R_elem HQ11.out z54 (x3_1 : Int) (of_decide_eq_true (by first | (with_reducible assumption) | assumption)) (by have h_ : (x3_1 : Int) < ((x0_1.length : Int) : Int) := of_decide_eq_true (by first | (with_reducible assumption) | assumption); first | exact h_ | (have e_ := (Kd.R_reads' HO_0.out).1; omega) | simpa using h_)
        obtain rfl := k54_openM hM12
        have HP12 := (Kd.R_seg HQ11.out (x3_1 : Int) (of_decide_eq_true (by first | (with_reducible assumption) | assumption)) (by have h_ : (x3_1 : Int) < ((x0_1.length : Int) : Int) := of_decide_eq_true (by first | (with_reducible assumption) | assumption); first | exact h_ | (have e_ := (Kd.R_reads' HO_0.out).1; omega) | simpa using h_) (seg := [.int .i64 ((rd_T54 x0_1 x2_1).f0), .int .i64 ((rd_T54 x0_1 x2_1).f1)]) (j := 0) hcl12 hcc12 (show 2 ≤ 2 from by decide) (x' := (⟨(rd_T54 x0_1 x2_1).f0, (rd_T54 x0_1 x2_1).f1⟩ : S54)) (k54_mkM _ _ _ (⟨(rd_T54 x0_1 x2_1).f0, (rd_T54 x0_1 x2_1).f1⟩ : S54) ) (fun _ hk => hk)).1
        rw [← Ny338.out] at HP12
        have HQ12 := Aside0.mk HP12
        clear hcl12 hcc12 hfr12 hM12 HP12
        refine start_ (n := 16) (S := fun w' => w'.cell? ⟨go8, ((x3_1).toNat * 2), none⟩ = some (.int .i64 ((rd_T54 x0_1 x3_1).f0)) ∧ w'.cell? ⟨go8, ((x3_1).toNat * 2) + 1, none⟩ = some (.int .i64 ((rd_T54 x0_1 x3_1).f1)) ∧ w'.cell? ⟨go8, ((x2_1).toNat * 2), none⟩ = some (.int .i64 ((rd_T54 x0_1 x2_1).f0)) ∧ w'.cell? ⟨go8, ((x2_1).toNat * 2) + 1, none⟩ = some (.int .i64 ((rd_T54 x0_1 x2_1).f1))) (ds := [13, 15]) #[N,N,N,N,N,N,N,N,N,N,N,N,N,N,N,N] (by kernel_rfl) rfl rfl ⟨hx335_0, hx335_1, hx336_0, hx336_1⟩ (fun hHeld => ?_); refine with_tabW api_Pair.tab3 api_Pair.bits3 (fun HT_ HW_ => ?_)
        generalize wr.drew = w10 at HO_0 HK HB GG8 HQ11 HQ12 hf8_0 hf8_1 hf9_0 hf9_1 hx335_0 hx335_1 hx336_0 hx336_1 hx8_0 hx8_1 hx9_0 hx9_1 hHeld ⊢
        refine pure_ (i := 0) (N := some 14) (v := ?_) (a' := ?_) #[Y,N,N,N,N,N,N,N,N,N,N,N,N,N,N,N] rfl rfl (any_of HT_.out (by kernel_rfl)) (fun _ _ _ h => h) (Or.inl ⟨by rfl, ?_⟩) ?_ ?_; rotate_left
        ·intro w'; go_simp; with_reducible rfl
        rotate_left
        ·simp only [Act.put, sA,sB,sC, i64_w, i32_w]; rfl
        refine pure_ (i := 1) (N := some 15) (v := ?_) (a' := ?_) #[Y,Y,N,N,N,N,N,N,N,N,N,N,N,N,N,N] rfl rfl (any_of HT_.out (by kernel_rfl)) (fun _ _ _ h => h) (Or.inl ⟨by rfl, ?_⟩) ?_ ?_; rotate_left
        ·intro w'; go_simp; with_reducible rfl
        rotate_left
        ·simp only [Act.put, sA,sB,sC, i64_w, i32_w]; rfl
        refine pure_ (i := 2) (N := some 16) (v := ?_) (a' := ?_) #[Y,Y,Y,N,N,N,N,N,N,N,N,N,N,N,N,N] rfl rfl (any_of HT_.out (by kernel_rfl)) (fun _ _ _ h => h) (Or.inl ⟨by rfl, ?_⟩) ?_ ?_; rotate_left
        ·intro w'; go_simp; with_reducible rfl
        rotate_left
        ·simp only [Act.put, sA,sB,sC, i64_w, i32_w]; rfl
        refine pure_ (i := 3) (N := some 17) (v := ?_) (a' := ?_) #[Y,Y,Y,Y,N,N,N,N,N,N,N,N,N,N,N,N] rfl rfl (any_of HT_.out (by kernel_rfl)) (fun _ _ _ h => h) (Or.inl ⟨by rfl, ?_⟩) ?_ ?_; rotate_left
        ·intro w'; go_simp; with_reducible rfl
        rotate_left
        ·simp only [Act.put, sA,sB,sC, i64_w, i32_w]; rfl
        refine pure_ (i := 4) (N := some 18) (v := ?_) (a' := ?_) #[Y,Y,Y,Y,Y,N,N,N,N,N,N,N,N,N,N,N] rfl rfl (any_of HT_.out (by kernel_rfl)) (fun _ _ _ h => h) (Or.inl ⟨by rfl, ?_⟩) ?_ ?_; rotate_left
        ·intro w'; go_simp; with_reducible rfl
        rotate_left
        ·simp only [Act.put, sA,sB,sC, i64_w, i32_w]; rfl
        refine pure_ (i := 5) (N := some 19) (v := ?_) (a' := ?_) #[Y,Y,Y,Y,Y,Y,N,N,N,N,N,N,N,N,N,N] rfl rfl (any_of HT_.out (by kernel_rfl)) (fun _ _ _ h => h) (Or.inl ⟨by rfl, ?_⟩) ?_ ?_; rotate_left
        ·intro w'; go_simp; with_reducible rfl
        rotate_left
        ·simp only [Act.put, sA,sB,sC, i64_w, i32_w]; rfl
        refine pure_ (i := 6) (N := some 20) (v := ?_) (a' := ?_) #[Y,Y,Y,Y,Y,Y,Y,N,N,N,N,N,N,N,N,N] rfl rfl (any_of HT_.out (by kernel_rfl)) (fun _ _ _ h => h) (Or.inl ⟨by rfl, ?_⟩) ?_ ?_; rotate_left
        ·intro w'; go_simp; with_reducible rfl
        rotate_left
        ·simp only [Act.put, sA,sB,sC, i64_w, i32_w]; rfl
        refine pure_ (i := 8) (N := some 22) (v := ?_) (a' := ?_) #[Y,Y,Y,Y,Y,Y,Y,N,Y,N,N,N,N,N,N,N] rfl rfl (any_of HT_.out (by kernel_rfl)) (fun _ _ _ h => h) (Or.inl ⟨by rfl, ?_⟩) ?_ ?_; rotate_left
        ·intro w'; go_simp; with_reducible rfl
        rotate_left
        ·simp only [Act.put, sA,sB,sC, i64_w, i32_w]; rfl
        refine pure_ (i := 9) (N := some 23) (v := ?_) (a' := ?_) #[Y,Y,Y,Y,Y,Y,Y,N,Y,Y,N,N,N,N,N,N] rfl rfl (any_of HT_.out (by kernel_rfl)) (fun _ _ _ h => h) (Or.inl ⟨by rfl, ?_⟩) ?_ ?_; rotate_left
        ·intro w'; go_simp; with_reducible rfl
        rotate_left
        ·simp only [Act.put, sA,sB,sC, i64_w, i32_w]; rfl
        refine pure_ (i := 10) (N := some 24) (v := ?_) (a' := ?_) #[Y,Y,Y,Y,Y,Y,Y,N,Y,Y,Y,N,N,N,N,N] rfl rfl (any_of HT_.out (by kernel_rfl)) (fun _ _ _ h => h) (Or.inl ⟨by rfl, ?_⟩) ?_ ?_; rotate_left
        ·intro w'; go_simp; with_reducible rfl
        rotate_left
        ·simp only [Act.put, sA,sB,sC, i64_w, i32_w]; rfl
        refine take_ (i := 7) (N := some 21) (v := ?_) (a' := ?_) #[Y,Y,Y,Y,Y,Y,Y,Y,Y,Y,Y,N,N,N,N,N] rfl rfl (take_ofW HT_.out HW_.out (by kernel_rfl)) (fun _ _ _ h => h) (Or.inl ⟨by rfl, ?_⟩) hHeld ?_ ?_; rotate_left
        ·rintro w' ⟨s0, s1, s2, s3⟩; go_simp; with_reducible rfl
        rotate_left
        ·simp only [Act.put, sA,sB,sC, i64_w, i32_w]; rfl
        refine take_ (i := 11) (N := some 25) (v := ?_) (a' := ?_) #[Y,Y,Y,Y,Y,Y,Y,Y,Y,Y,Y,Y,N,N,N,N] rfl rfl (take_ofW HT_.out HW_.out (by kernel_rfl)) (fun _ _ _ h => h) (Or.inl ⟨by rfl, ?_⟩) hHeld ?_ ?_; rotate_left
        ·rintro w' ⟨s0, s1, s2, s3⟩; go_simp; with_reducible rfl
        rotate_left
        ·simp only [Act.put, sA,sB,sC, i64_w, i32_w]; rfl
        refine pure_ (i := 12) (N := some 26) (v := ?_) (a' := ?_) #[Y,Y,Y,Y,Y,Y,Y,Y,Y,Y,Y,Y,Y,N,N,N] rfl rfl (any_of HT_.out (by kernel_rfl)) (fun _ _ _ h => h) (Or.inl ⟨by rfl, ?_⟩) ?_ ?_; rotate_left
        ·intro w'; go_simp; with_reducible rfl
        rotate_left
        ·simp only [Act.put, sA,sB,sC, i64_w, i32_w]; rfl
        refine last_ (i := 13) (N := none) #[Y,Y,Y,Y,Y,Y,Y,Y,Y,Y,Y,Y,Y,Y,N,N] rfl rfl (one_of HT_.out (by kernel_rfl)) (by decide) (fun K hK => ?_)
        refine skip_ (w1 := ?_) (by rfl) rfl ?_ ?_
        rotate_left
        ·go_simp; rfl
        refine hK.out _ _ ?_
        clear hK K
        refine pure_ (i := 14) (N := some 27) (v := ?_) (a' := ?_) #[Y,Y,Y,Y,Y,Y,Y,Y,Y,Y,Y,Y,Y,Y,Y,N] rfl rfl (any_of HT_.out (by kernel_rfl)) (fun _ _ _ h => h) (Or.inl ⟨by rfl, ?_⟩) ?_ ?_; rotate_left
        ·intro w'; go_simp; with_reducible rfl
        rotate_left
        ·simp only [Act.put, sA,sB,sC, i64_w, i32_w]; rfl
        have hp_ : (x3_1 : Int).toNat * 2 ≠ (x2_1 : Int).toNat * 2 := by have h1_ := of_decide_eq_true c3b0; have h2_ := of_decide_eq_true c6b0; omega
        have hq0_ : (w10.setCell ⟨go8, (x2_1 : Int).toNat * 2, none⟩ (.int .i64 ((rd_T54 x0_1 x3_1).f0))).cell? ⟨go8, (x3_1 : Int).toNat * 2, none⟩ = some (.int .i64 ((rd_T54 x0_1 x3_1).f0)) := (World.cell?_setCell_other _ _ _ _ (fun e_ => hp_ (by injection e_ with _ e_ _; first | exact e_ | exact e_.symm))).trans hx335_0
        have hq1_ : ((w10.setCell ⟨go8, (x2_1 : Int).toNat * 2, none⟩ (.int .i64 ((rd_T54 x0_1 x3_1).f0))).setCell ⟨go8, (x2_1 : Int).toNat * 2 + 1, none⟩ (.int .i64 ((rd_T54 x0_1 x3_1).f1))).cell? ⟨go8, (x3_1 : Int).toNat * 2 + 1, none⟩ = some (.int .i64 ((rd_T54 x0_1 x3_1).f1)) := (World.cell?_setCell_other _ _ _ _ (fun e_ => hp_ (by injection e_ with _ e_ _; omega))).trans ((World.cell?_setCell_other _ _ _ _ (fun e_ => hp_ (by injection e_ with _ e_ _; omega))).trans hx335_1)
        have hr0_ := blk_frozen GG8.out ((x3_1 : Int).toNat * 2)
        have hr1_ := blk_frozen GG8.out ((x3_1 : Int).toNat * 2 + 1)
        clear hp_
        refine last_ (i := 15) (N := none) #[Y,Y,Y,Y,Y,Y,Y,Y,Y,Y,Y,Y,Y,Y,Y,Y] rfl rfl (one_of HT_.out (by kernel_rfl)) (by decide) (fun K hK => ?_)
        refine skip_ (w1 := ?_) (by rfl) rfl ?_ ?_
        rotate_left
        ·go_simp; rfl
        refine hK.out _ _ ?_
        clear hK K
        refine done_ (done_of HT_.out (by kernel_rfl)) ?_
        try go_wp2
        (try simp only [← hl0_1])
        go_roundg k1
        case measure => have := HK1.out; omega
        case rel => exact ⟨(y338), (wrap64 (x2_1 + 1)), (wrap64 (x3_1 - 1)), (by first | rfl | (simp; done) | (simp [*]; done)), (by first | rfl | (simp; done) | (simp [*]; done)), H', ⟨by have := HK1.out; omega⟩, ⟨by (try simp only [hl0_1]); (with_reducible repeat (first | apply Kd.R_alloc | apply Kd.R_drewN | apply Kd.R_drew)); exact HQ12.out⟩, ⟨by repeat (first | (with_reducible first | exact HK.out | apply Kept.alloc | apply Kept.drewN | apply Kept.drew | refine Kept.setCell ?_ HMgo8.out _ | refine Kept.setCell ?_ HMgo8.out _ | refine Kept.setCell ?_ HMgo8.out _ | refine Kept.setCell ?_ HMgo8.out _) | exact HK.out)⟩, ⟨by repeat (first | (with_reducible first | exact HB.out | apply below_alloc | apply pw_below_drewN | apply below_drew1 | refine below_set ?_ GB8.out | refine below_set ?_ GB8.out | refine below_set ?_ GB8.out | refine below_set ?_ GB8.out) | exact HB.out)⟩⟩
       ·rw [if_neg c7] at H
        exact absurd H (by simp)
      ·rw [if_neg c6] at H
       exact absurd H (by simp)
     ·rw [if_neg c5] at H
      exact absurd H (by simp)
    ·rw [if_neg c4] at H
     exact absurd H (by simp)
   ·rw [if_neg c3] at H
    have c3b0 : decide (x2_1 < x3_1) = false := decide_eq_false c3
    clear c3
    obtain rfl := Option.some.inj H
    go_wp2
    first | go_end0 | ((try simp only [Exit.inBlock, Exit.then]); refine bodyPost_ret (results_none rfl _ _ _) rfl ?_)
    exact ⟨by first | rfl | (simp [errW_none, errW_some] <;> rfl) | (simp [*, errW_none, errW_some] <;> rfl), (by first | exact (by (with_reducible repeat (first | apply Kd.R_alloc | apply Kd.R_drewN | apply Kd.R_drew)); exact HO_0.out) | (simp only [hl0_1]; exact (by (with_reducible repeat (first | apply Kd.R_alloc | apply Kd.R_drewN | apply Kd.R_drew)); exact HO_0.out))), by repeat (first | (with_reducible first | exact HB.out | apply below_alloc | apply pw_below_drewN | apply below_drew1) | exact HB.out), by repeat (first | (with_reducible first | exact HK.out | apply Kept.alloc | apply Kept.drewN | apply Kept.drew) | exact HK.out)⟩
end Go.Proofs.YtdiojfaenfggkaaGreat.PTopNear
namespace Go.Proofs.YtdiojfaenfggkaaGreat.PTopNear
open Go.RowKit Go.Proofs.YtdiojfaenfggkaaGreatW.PrintWords Go.Proofs.YtdiojfaenfggkaaGreatW.PrintLast Go.Proofs.YtdiojfaenfggkaaGreatW.PrintMore
attribute [local go_sem] max2_int min2_int max_two min_two max_three min_three max_four min_four
set_option linter.unusedVariables false
set_option linter.unusedSimpArgs false
def hyyro_is.f (a0 : Int) : Option (Bool) := if a0 ≥ 0 then (some (decide (a0 ≤ 1048576))) else (some false)
set_option maxHeartbeats 8000000 in
set_option maxRecDepth 100000 in
theorem hyyro_is.calls (a0 : Int) (r : Bool) (w : World) (h : hyyro_is.f a0 = some r) :
  Calls Tryz.prog 170 #[.int .i64 a0] w fun e w' => e = .returned (.bool r) ∧ Drawn0 w w' := by
 have H : (if a0 ≥ 0 then (some (decide (a0 ≤ 1048576))) else (some false)) = some r := h
 clear h
 by_cases c2 : a0 ≥ 0
 ·rw [if_pos c2] at H
  have c2b0 : decide (0 ≤ a0) = true := decide_eq_true c2
  clear c2
  obtain rfl := Option.some.inj H
  go_enter Tryz.func170, Tryz.ntmps170
  go_wp2
  go_ret
  exact ⟨by first | rfl | (simp; done) | (simp [*]; done), by repeat (first | exact Drawn0.refl _ | apply Drawn0.step)⟩
 ·rw [if_neg c2] at H
  have c2b0 : decide (0 ≤ a0) = false := decide_eq_false c2
  clear c2
  obtain rfl := Option.some.inj H
  go_enter Tryz.func170, Tryz.ntmps170
  go_wp2
  go_ret
  exact ⟨by first | rfl | (simp; done) | (simp [*]; done), by repeat (first | exact Drawn0.refl _ | apply Drawn0.step)⟩
def hyyro_Steps.f (a0 : Int) (a1 : Int) : Option (Int) := (hyyro_is.f a0).bind fun t600 => (if t600 = true then ((hyyro_is.f a1).bind fun t601 => (if t601 = true then ((vec_Words.f a1).bind fun t602 => (some (wrap64 (a0 * t602)))) else (some 0))) else (some 0))
set_option maxHeartbeats 8000000 in
set_option maxRecDepth 100000 in
theorem hyyro_Steps.calls (a0 : Int) (a1 : Int) (r : Int) (w : World) (h : hyyro_Steps.f a0 a1 = some r) :
  Calls Tryz.prog 131 #[.int .i64 a0, .int .i64 a1] w fun e w' => e = .returned (.int .i64 r) ∧ Below w.heap.size w w' := by
 have HB := Aside0.mk (Below.refl w.heap.size w)
 have H : ((hyyro_is.f a0).bind fun t600 => (if t600 = true then ((hyyro_is.f a1).bind fun t601 => (if t601 = true then ((vec_Words.f a1).bind fun t602 => (some (wrap64 (a0 * t602)))) else (some 0))) else (some 0))) = some r := h
 clear h
 replace H := Option.bind_eq_some_iff.mp H
 obtain ⟨t600, A30, H⟩ := H
 replace H : (if t600 = true then ((hyyro_is.f a1).bind fun t601 => (if t601 = true then ((vec_Words.f a1).bind fun t602 => (some (wrap64 (a0 * t602)))) else (some 0))) else (some 0)) = some r := H
 have A3 := Aside0.mk A30
 clear A30
 by_cases c4 : t600 = true
 ·subst c4
  have H1 : ((hyyro_is.f a1).bind fun t601 => (if t601 = true then ((vec_Words.f a1).bind fun t602 => (some (wrap64 (a0 * t602)))) else (some 0))) = some r := by rw [if_pos rfl] at H; exact H
  clear H
  have H := H1
  clear H1
  replace H := Option.bind_eq_some_iff.mp H
  obtain ⟨t601, A50, H⟩ := H
  replace H : (if t601 = true then ((vec_Words.f a1).bind fun t602 => (some (wrap64 (a0 * t602)))) else (some 0)) = some r := H
  have A5 := Aside0.mk A50
  clear A50
  by_cases c6 : t601 = true
  ·subst c6
   have H1 : ((vec_Words.f a1).bind fun t602 => (some (wrap64 (a0 * t602)))) = some r := by rw [if_pos rfl] at H; exact H
   clear H
   have H := H1
   clear H1
   replace H := Option.bind_eq_some_iff.mp H
   obtain ⟨t602, A70, H⟩ := H
   replace H : (some (wrap64 (a0 * t602))) = some r := H
   have A7 := Aside0.mk A70
   clear A70
   obtain rfl := Option.some.inj H
   go_enter Tryz.func131, Tryz.ntmps131
   go_wp2_with (first | ((first | (with_reducible refine gate_callee (f := 170) rfl ?_); refine goesL_ (some 6) rfl rfl Tryz.func170 (by kernel_rfl) rfl #[.int .i64 a0] rfl (by (try simp only [List.map_toArray, List.map_cons, List.map_nil]); first | done | rfl | (simp only [List.length_drop, List.length_take]; rfl)) ?_ | go_at_call 170); (with_reducible refine (hyyro_is.calls a0 true _ A3.out).mono ?_); rintro e w' ⟨rfl, ⟨nd, rfl⟩⟩; (try refine ⟨_, rfl, ?_⟩)) | (go_at_call 170; (with_reducible refine (hyyro_is.calls a1 true _ A5.out).mono ?_); rintro e w' ⟨rfl, ⟨nd, rfl⟩⟩) | ((first | (with_reducible refine gate_callee (f := 164) rfl ?_); refine goesL_ (some 15) rfl rfl Tryz.func164 (by kernel_rfl) rfl #[.int .i64 a1] rfl (by (try simp only [List.map_toArray, List.map_cons, List.map_nil]); first | done | rfl | (simp only [List.length_drop, List.length_take]; rfl)) ?_ | go_at_call 164); (with_reducible refine (vec_Words.calls a1 t602 _ A7.out).mono ?_); rintro e w8 ⟨rfl, hb⟩; (try refine ⟨_, rfl, ?_⟩); have n0_ := Aside0.mk (below_step (by repeat (first | (with_reducible first | exact HB.out | apply below_alloc | apply pw_below_drewN | apply below_drew1) | exact HB.out)) hb); clear HB; have HB := n0_; clear n0_; (try clear hb); (try clear hb2); (try clear hk); (try clear hi)))
   go_ret
   exact ⟨by first | rfl | (simp [errW_none, errW_some] <;> rfl) | (simp [*, errW_none, errW_some] <;> rfl), by repeat (first | (with_reducible first | exact HB.out | apply below_alloc | apply pw_below_drewN | apply below_drew1) | exact HB.out)⟩
  ·replace c6 := Bool.eq_false_iff.mpr c6
   subst c6
   have H1 : (some 0) = some r := by rw [if_neg (show ¬ (false = true) by decide)] at H; exact H
   clear H
   have H := H1
   clear H1
   obtain rfl := Option.some.inj H
   go_enter Tryz.func131, Tryz.ntmps131
   go_wp2_with (first | ((first | (with_reducible refine gate_callee (f := 170) rfl ?_); refine goesL_ (some 6) rfl rfl Tryz.func170 (by kernel_rfl) rfl #[.int .i64 a0] rfl (by (try simp only [List.map_toArray, List.map_cons, List.map_nil]); first | done | rfl | (simp only [List.length_drop, List.length_take]; rfl)) ?_ | go_at_call 170); (with_reducible refine (hyyro_is.calls a0 true _ A3.out).mono ?_); rintro e w' ⟨rfl, ⟨nd, rfl⟩⟩; (try refine ⟨_, rfl, ?_⟩)) | (go_at_call 170; (with_reducible refine (hyyro_is.calls a1 false _ A5.out).mono ?_); rintro e w' ⟨rfl, ⟨nd, rfl⟩⟩))
   go_ret
   exact ⟨by first | rfl | (simp [errW_none, errW_some] <;> rfl) | (simp [*, errW_none, errW_some] <;> rfl), by repeat (first | (with_reducible first | exact HB.out | apply below_alloc | apply pw_below_drewN | apply below_drew1) | exact HB.out)⟩
 ·replace c4 := Bool.eq_false_iff.mpr c4
  subst c4
  have H1 : (some 0) = some r := by rw [if_neg (show ¬ (false = true) by decide)] at H; exact H
  clear H
  have H := H1
  clear H1
  obtain rfl := Option.some.inj H
  go_enter Tryz.func131, Tryz.ntmps131
  go_wp2_with (first | ((first | (with_reducible refine gate_callee (f := 170) rfl ?_); refine goesL_ (some 6) rfl rfl Tryz.func170 (by kernel_rfl) rfl #[.int .i64 a0] rfl (by (try simp only [List.map_toArray, List.map_cons, List.map_nil]); first | done | rfl | (simp only [List.length_drop, List.length_take]; rfl)) ?_ | go_at_call 170); (with_reducible refine (hyyro_is.calls a0 false _ A3.out).mono ?_); rintro e w' ⟨rfl, ⟨nd, rfl⟩⟩; (try refine ⟨_, rfl, ?_⟩)))
  go_ret
  exact ⟨by first | rfl | (simp [errW_none, errW_some] <;> rfl) | (simp [*, errW_none, errW_some] <;> rfl), by repeat (first | (with_reducible first | exact HB.out | apply below_alloc | apply pw_below_drewN | apply below_drew1) | exact HB.out)⟩
end Go.Proofs.YtdiojfaenfggkaaGreat.PTopNear
namespace Go.Proofs.YtdiojfaenfggkaaGreat.PTopNear
open Go.RowKit Go.Proofs.YtdiojfaenfggkaaGreatW.PrintWords Go.Proofs.YtdiojfaenfggkaaGreatW.PrintLast Go.Proofs.YtdiojfaenfggkaaGreatW.PrintMore
attribute [local go_sem] max2_int min2_int max_two min_two max_three min_three max_four min_four
set_option linter.unusedVariables false
set_option linter.unusedSimpArgs false
theorem rd_pair {xs : List S54} {i : Int} {p : Nat} (h : i = (p : Int)) : rd_T54 xs i = xs.getD p z54 := by subst h; rfl
def turnAt (n i : Nat) (F : Nat → S54) (p : Nat) : S54 := if p < i ∨ n < p + i + 1 then F (n - 1 - p) else F p
theorem api_Pair_l0 (F : Nat → S54) (n : Nat) (hn : n ≤ 100000000) : ∀ (d k i : Nat), i + d = n / 2 → d < k → api_Pair.l0 k (seq n (turnAt n i F)) i ((n : Int) - 1 - i) = some (seq n fun p => F (n - 1 - p)) := by
  intro d
  induction d with
  | zero =>
    intro k i hi hk
    obtain ⟨k, rfl⟩ : ∃ m, k = m + 1 := ⟨k - 1, by omega⟩
    rw [api_Pair.l0, if_neg (by omega)]
    congr 1
    refine seq_ext fun p hp => ?_
    unfold turnAt
    split
    · rfl
    · rw [show n - 1 - p = p by omega]
  | succ d ih =>
    intro k i hi hk
    obtain ⟨k, rfl⟩ : ∃ m, k = m + 1 := ⟨k - 1, by omega⟩
    have h4 := ih k (i + 1) (by omega) (by omega)
    have ej : (n : Int) - 1 - i = ((n - 1 - i : Nat) : Int) := by omega
    have e1 : rd_T54 (seq n (turnAt n i F)) ((n : Int) - 1 - i) = F (n - 1 - i) := by
      rw [rd_pair ej, seq_getD _ (by omega)]
      unfold turnAt
      rw [if_neg (by omega)]
    have e2 : rd_T54 (seq n (turnAt n i F)) (i : Int) = F i := by
      rw [rd_pair rfl, seq_getD _ (by omega)]
      unfold turnAt
      rw [if_neg (by omega)]
    have e3 : ((seq n (turnAt n i F)).set i (F (n - 1 - i))).set (n - 1 - i) (F i) = seq n (turnAt n (i + 1) F) := by
      rw [seq_set, seq_set]
      refine seq_ext fun p hp => ?_
      unfold upd turnAt
      by_cases h1 : p = n - 1 - i
      · rw [if_pos h1, if_pos (by omega), show n - 1 - p = i by omega]
      · rw [if_neg h1]
        by_cases h2 : p = i
        · rw [if_pos h2, if_pos (by omega), h2]
        · rw [if_neg h2]
          by_cases h3 : p < i ∨ n < p + i + 1
          · rw [if_pos h3, if_pos (by omega)]
          · rw [if_neg h3, if_neg (by omega)]
    rw [api_Pair.l0, if_pos (by omega), if_pos (by omega), if_pos (by rw [seq_length]; omega), if_pos (by omega), if_pos (by rw [seq_length]; omega), e1, e2, wr (by omega) (by omega), wr (by omega) (by omega), Int.toNat_natCast, show ((n : Int) - 1 - i).toNat = n - 1 - i by omega]
    show api_Pair.l0 k (((seq n (turnAt n i F)).set i (F (n - 1 - i))).set (n - 1 - i) (F i)) _ _ = _
    rw [e3, ← h4]
    congr 1
    omega
theorem api_Pair_eq (l : List S54) (hl : l.length ≤ 100000000) (k : Nat) (hk : l.length < k) : api_Pair.f k l = some l.reverse := by
  have h := api_Pair_l0 (fun i => l.getD i z54) l.length hl (l.length / 2) k 0 (by omega) (by omega)
  unfold api_Pair.f
  rw [wr (by omega) (by omega)]
  have e1 : seq l.length (turnAt l.length 0 fun i => l.getD i z54) = l := by
    refine Eq.trans (seq_ext fun p hp => ?_) (seq_of l z54).symm
    unfold turnAt
    rw [if_neg (by omega)]
  have e2 : (seq l.length fun p => l.getD (l.length - 1 - p) z54) = l.reverse := by
    refine Eq.trans ?_ (seq_of l.reverse z54).symm
    rw [List.length_reverse]
    refine seq_ext fun p hp => ?_
    rw [List.getD_eq_getElem?_getD, List.getD_eq_getElem?_getD, List.getElem?_reverse hp]
  rw [e1, e2] at h
  rw [← h]
  congr 1
  omega
end Go.Proofs.YtdiojfaenfggkaaGreat.PTopNear
namespace Go.Proofs.YtdiojfaenfggkaaGreat.PTopNear
open Go.RowKit Go.Proofs.YtdiojfaenfggkaaGreatW.PrintWords Go.Proofs.YtdiojfaenfggkaaGreatW.PrintLast Go.Proofs.YtdiojfaenfggkaaGreatW.PrintMore
attribute [local go_sem] max2_int min2_int max_two min_two max_three min_three max_four min_four
set_option linter.unusedVariables false
set_option linter.unusedSimpArgs false
theorem kept_step (i ev K : Nat) (he : 1 ≤ ev) (h1 : i ≤ K * ev) (h2 : K * ev < i + ev) : (i % ev = 0 → K * ev = i) ∧ (i % ev ≠ 0 → i + 1 ≤ K * ev) := by
  constructor
  · intro h
    obtain ⟨q, hq⟩ := Nat.dvd_of_mod_eq_zero h
    rw [hq, Nat.mul_comm K] at h1 h2
    have h3 : q ≤ K := Nat.le_of_mul_le_mul_left h1 (by omega)
    have h4 : K < q + 1 := Nat.lt_of_mul_lt_mul_left (a := ev) (by rw [Nat.mul_add]; omega)
    obtain rfl : K = q := by omega
    rw [hq, Nat.mul_comm]
  · intro h
    rcases Nat.lt_or_ge i (K * ev) with h3 | h3
    · omega
    · exfalso
      apply h
      rw [show i = K * ev by omega]
      exact Nat.mul_mod_left _ _
theorem MasksAt.grown {w W : World} {mb rb : Nat} {l : List Int} (h : MasksAt w mb rb l) {row : Option Nat} (hg : w.grownBy W row) (hr : ∀ k, row = some k → ∃ cells t, w.heap[k]? = some (.cells cells t (0, 0)) ∧ t ≠ 233 ∧ t ≠ 231) : MasksAt W mb rb l := by
  obtain ⟨sl, base, k, S, D, G, h1, h2, h3⟩ := h
  have hne : ∀ (q : Nat) (cs : Array Value) (t : Nat), w.heap[q]? = some (.cells cs t (0, 0)) → (t = 233 ∨ t = 231) → some q ≠ row := fun q cs t hq ht e => by
    obtain ⟨cells, t', hc, e1, e2⟩ := hr _ e.symm
    rw [hq] at hc
    injection hc with hc
    injection hc with _ hc
    rcases ht with rfl | rfl
    · exact e1 hc.symm
    · exact e2 hc.symm
  refine ⟨sl, base, k, S, D, G, blk_grown h1 hg (hne _ _ _ h1 (.inr rfl)), ⟨h2.own.kept hg (fun e => ?_), h2.isMap, h2.at_, h2.base, fun x hx => blk_grown (h2.row x hx) hg (hne _ _ _ (h2.row x hx) (.inl rfl)), h2.ne⟩, h3⟩
  obtain ⟨cells, t', hc, _⟩ := hr _ e.symm
  obtain ⟨es, ck, hm, _⟩ := h2.own
  rw [hm] at hc
  injection hc with hc
  cases hc
theorem row_typed2 {α : Type} {d : Kd α} {e : Nat} {w : World} {base : Nat} {ok : Nat → Prop} {v : Value} {xs : List α} (h : d.R e w base ok v xs) (he : e ≠ 233 ∧ e ≠ 231) : ∀ k, v.ownBlock = some k → ∃ cells t, w.heap[k]? = some (.cells cells t (0, 0)) ∧ t ≠ 233 ∧ t ≠ 231 := fun k hk => by
  obtain ⟨cells, hc⟩ := Kd.R_typed h k hk
  exact ⟨cells, e, hc, he⟩
theorem lit_words (w : World) (p : Nat × Nat) (base : Nat) (hb : base ≤ w.heap.size) : kW.R 196 (w.alloc (Obj.cells #[.slice (some ⟨p.1, 0, none⟩) 1 p.2] 196)) base (fun k => w.heap.size ≤ k) (.slice (some ⟨w.heap.size, 0, none⟩) 1 1) [p] := by
  refine Kd.R_of_own ?_ (fun k hk => ?_)
  · exact ⟨by simp [encs], .inr ⟨w.heap.size, 1, _, rfl, hb, alloc_at w _, Nat.le_refl _, by unfold maxLen; omega, rfl, rfl⟩⟩
  · have : w.heap.size = k := by simpa [Value.ownBlock] using hk
    omega
theorem words_at {w : World} {base : Nat} {ok : Nat → Prop} {A : Option Addr} {n c : Nat} {ks : List (Nat × Nat)} {f : Nat → Nat} (h : kW.R 196 w base ok (.slice A n c) ks) (hs : WordsAt w ks f) {q : Nat} (hq : q < ks.length) : ∃ g, A = some ⟨g, 0, none⟩ ∧ w.cell? ⟨g, q, none⟩ = some (.slice (some ⟨(ks.getD q (0, 0)).1, 0, none⟩) 1 (ks.getD q (0, 0)).2) ∧ Aside0 (WordAt w (ks.getD q (0, 0)) (f q)) := by
  have h2 : ks[q]? = some (ks.getD q (0, 0)) := by rw [List.getD_eq_getElem?_getD, List.getElem?_eq_getElem hq]; rfl
  rcases (Kd.own_of_R h).2 with ⟨h1, h0⟩ | ⟨g, cap, cur, h1, hb, hh, hnc, hcm, hcs, ht⟩
  · omega
  · injection h1 with h1 _ _
    refine ⟨g, h1, ?_, ⟨hs q _ h2⟩⟩
    refine (blk_cell hh q).trans ?_
    have h3 : (cur.toList.take (ks.length * 1))[q]? = (encs encW ks)[q]? := by rw [ht]
    rw [List.getElem?_take, if_pos (by omega), Array.getElem?_toList] at h3
    rw [h3]
    simp [encs, encW, List.getD_eq_getElem?_getD, List.getElem?_eq_getElem hq]
theorem inf196_ : (Tryz.prog.info? 196).map (fun i => (i.zero, i.size, i.bytes)) = some (some (.slice none 0 0), 1, 24) := by kernel_rfl
set_option maxRecDepth 100000 in
theorem words_push {W : World} {base : Nat} {ok : Nat → Prop} {g c : Nat} {rs : List (Nat × Nat)} (h : kW.R 196 W base ok (.slice (some ⟨g, 0, none⟩) rs.length c) rs) (h0 : 1 ≤ rs.length) (hl : rs.length ≤ 1000000) (hbase : base ≤ W.heap.size) (p : Nat × Nat) (ty : TypeId) {q : Nat} (hq : W.heap[q]? = some (.cells #[.slice (some ⟨p.1, 0, none⟩) 1 p.2] 196 (0, 0))) :
    ∃ v' W', (Builtin.append_ #[198, 198] ty #[.slice (some ⟨g, 0, none⟩) rs.length c, .slice (some ⟨q, 0, none⟩) 1 1]).run Tryz.prog W = .ok v' W' ∧ kW.R 196 W' base (fun k => ok k ∨ W.heap.size ≤ k) v' (rs ++ [p]) ∧ W.grownBy W' (some g) ∧ ∀ d, d < rs.length → W'.cell? ⟨g, d, none⟩ = W.cell? ⟨g, d, none⟩ := by
  obtain ⟨i0, hi, hz0, hz1, hz2⟩ := info_parts inf196_
  have hown : W.ownsRow base 196 1 (.slice (some ⟨g, 0, none⟩) rs.length c) rs.length (rs.map encW) := Kd.own_of_R h
  have hnews : ∀ j u, ([Value.slice (some ⟨p.1, 0, none⟩) 1 p.2] : List Value)[j]? = some u → W.cell? ((⟨q, 0, none⟩ : Addr).add j) = some u := fun j u hj => by
    have hj0 : j = 0 := by have := (List.getElem?_eq_some_iff.1 hj).1; simpa using this
    subst hj0
    rw [add_plain]
    exact (blk_cell hq 0).trans (by simpa using hj)
  have h1c : ∀ u ∈ ([Value.slice (some ⟨p.1, 0, none⟩) 1 p.2] : List Value), u.oneCell' = true := fun u hu => by rw [List.mem_singleton.1 hu]; rfl
  obtain ⟨v', W', hr, h2, h3, _, h5⟩ := run_append_own_at (P := Tryz.prog) W base 198 ty 196 i0 (.slice none 0 0) 1 24 Tryz.underlying198 hi hz0 hz1 hz2 rfl (by decide) _ rs.length _ hown ⟨q, 0, none⟩ 1 1 [.slice (some ⟨p.1, 0, none⟩) 1 p.2] rfl hnews h1c (by unfold maxLen; omega) (by omega) hbase
  refine ⟨v', W', hr, Kd.R_of_own (by simpa [encs, encW] using h2) (fun k hk => ?_), by simpa [Value.ownBlock] using h3, fun d hd => ?_⟩
  · rcases h5 with h5 | h5
    · rw [h5] at hk; exact .inl (h.1 k hk)
    · rw [h5] at hk; injection hk with hk; exact .inr (by omega)
  · rcases hown.2 with ⟨e, _⟩ | ⟨g', cap, cur, e, hbg, hg, hnc, hcm, hcs, ht⟩
    · cases e
    · injection e with e1 e2 e3
      injection e1 with e1
      injection e1 with e1 _ _
      subst e1 e3
      by_cases hroom : rs.length + 1 ≤ c
      · have hex := run_append_room_cells (P := Tryz.prog) W 198 ty 196 i0 Tryz.underlying198 hi g 0 rs.length c ⟨q, 0, none⟩ 1 1 [.slice (some ⟨p.1, 0, none⟩) 1 p.2] (by rw [hz1]; rfl) hnews h1c hroom (fun j hj => by
          have hj0 : j = 0 := by simpa using hj
          subst hj0
          rw [hz1, Nat.zero_add, Nat.mul_one, Nat.add_zero, blk_cell hg]
          simp; omega) (fun j _ => blk_frozen hg _)
        rw [hr] at hex
        injection hex with _ hex
        rw [hex, hz1, Nat.zero_add, Nat.mul_one]
        show ((W.setCell ⟨g, rs.length, none⟩ _).cell? ⟨g, d, none⟩) = _
        rw [blk_cell (blk_set hg rs.length _), blk_cell hg, Array.getElem?_setIfInBounds_ne (by omega)]
      · have hex := run_append_grow (P := Tryz.prog) W 198 ty 196 i0 (.slice none 0 0) Tryz.underlying198 hi hz0 ⟨g, 0, none⟩ rs.length c (rs.map encW) (by rw [hz1]; simp) (hown.cells (g := g) rfl) ⟨q, 0, none⟩ 1 1 [.slice (some ⟨p.1, 0, none⟩) 1 p.2] (by rw [hz1]; rfl) hnews (by omega) (by omega) (growslice_fits (by omega) (by rw [hz2]; omega))
        rw [hr] at hex
        injection hex with _ hex
        rw [hex]
        exact (World.cell?_alloc_lt _ _ _ (blk_lt hg))
theorem step_append_run {P : Program} {ops : Array Oper} {o : Oper} {a : Act} {w w' : World} {K : Act → World → Prop} {Q : Exit → Act → World → Prop} {E : Prop} (hg : o.guard = none) (s x : Operand) (t : TypeId)
    (ho : o.op = .call { callee := .builtin .append, args := #[s, x], argTypes := #[t, t] }) {v u v' : Value} (hs : a.eval s = v) (hx : a.eval x = u) (hr : (Builtin.append_ #[t, t] o.type #[v, u]).run P w = .ok v' w') (hK : K (a.put o.dst v') w') :
    if Region.wanted o (yielded ops a.tmps) = true then Oper.wp P o a w K Q else E := by
  have hw : Region.wanted o (yielded ops a.tmps) = true := by simp [Region.wanted, hg]
  rw [if_pos hw]
  unfold Oper.wp execOp
  simp only [ho, resolve, invoke, builtin, Sem.run_bind, Sem.run_pure, Result.andThen_ok, List.map_toArray, List.map_cons, List.map_nil, hs, hx, hr]
  exact hK
def toP (p : Nat × Nat) : S54 := ⟨p.1, p.2⟩
theorem backW_step (a b : List Int) (i j : Nat) : backW a b (i + 1) (j + 1) = if vbit a b (i + 1) j = true then backW a b (i + 1) j else if a.getD i 0 = b.getD j 0 then (i, j) :: backW a b i j else backW a b i (j + 1) := by
  conv => lhs; unfold backW
theorem backW_none (a b : List Int) (i : Nat) : backW a b i 0 = [] := by
  cases i <;> (unfold backW; rfl)
theorem backW_none' (a b : List Int) (j : Nat) : backW a b 0 j = [] := by unfold backW; rfl
theorem steps_some (n m : Nat) (hn : n ≤ 24) (h0 : 1 ≤ m) (h1 : m ≤ 24) : hyyro_Steps.f (n : Int) (m : Int) = some (n : Int) := by
  have e := (vec_small m h0 h1).1
  unfold hyyro_Steps.f hyyro_is.f
  rw [if_pos (by omega), decide_eq_true (show (n : Int) ≤ 1048576 by omega)]
  simp only [Option.bind_some, if_true]
  rw [if_pos (by omega), decide_eq_true (show (m : Int) ≤ 1048576 by omega)]
  simp only [Option.bind_some, if_true, e]
  rw [wrap_in (by omega) (by omega), Int.mul_one]
end Go.Proofs.YtdiojfaenfggkaaGreat.PTopNear
namespace Go.Proofs.YtdiojfaenfggkaaGreat.PTopNear
open Go.RowKit Go.Proofs.YtdiojfaenfggkaaGreatW.PrintWords Go.Proofs.YtdiojfaenfggkaaGreatW.PrintLast Go.Proofs.YtdiojfaenfggkaaGreatW.PrintMore
attribute [local go_sem] max2_int min2_int max_two min_two max_three min_three max_four min_four
set_option linter.unusedVariables false
set_option linter.unusedSimpArgs false
set_option maxHeartbeats 8000000 in
set_option maxRecDepth 100000 in
theorem walk_Run.calls (ev : Nat) (A0 A1 : Option Addr) (c0 c1 : Nat) (a b : List Int) (w : World) (hr0 : Kd.C (Kd.int .i64) w A0 a.length a) (hr1 : Kd.C (Kd.int .i64) w A1 b.length b) (ha : a.length ≤ 24) (hb0 : 1 ≤ b.length) (hb1 : b.length ≤ 24) (hw0 : ∀ x ∈ a, (Lit.int .i64 x).wf = true) (hw1 : ∀ x ∈ b, (Lit.int .i64 x).wf = true) (he0 : 1 ≤ ev) (he1 : ev ≤ max a.length 1) :
    Calls Tryz.prog 74 #[.int .i64 0, .slice A0 a.length c0, .slice A1 b.length c1, .int .i64 ev] w fun e w' => ∃ v s, e = .returned (.tuple #[v, .int .i64 s, .int .i64 0]) ∧ Kd.R k54 54 w' w.heap.size (fun _ => True) v ((backW a b a.length b.length).reverse.map toP) ∧ Below w.heap.size w w' := by
  have H0 := Aside0.mk hr0
  have H1 := Aside0.mk hr1
  have HW0 := Aside0.mk hw0
  have HW1 := Aside0.mk hw1
  clear hr0 hr1 hw0 hw1
  have t1 : decide ((ev : Int) < 1) = false := decide_eq_false (by omega)
  have HE : Aside0 (ev ≤ a.length ∨ ev = 1) := ⟨by omega⟩
  have hev : ev ≤ 24 := by omega
  clear he1
  go_enter Tryz.func74, Tryz.ntmps74
  go_upto_region 3 with fail
  go_upto_region 4 with fail
  have hmin : (if (if (a.length : Int) < 1 then 1 else (a.length : Int)) < (ev : Int) then (if (a.length : Int) < 1 then 1 else (a.length : Int)) else (ev : Int)) = ev := by
    have := HE.out
    by_cases h : (a.length : Int) < 1
    · rw [if_pos h, if_neg (by omega)]
    · rw [if_neg h, if_neg (by omega)]
  rw [hmin]
  clear hmin
  generalize (if (a.length : Int) < 1 then 1 else (a.length : Int)) = mx37
  go_upto_region 6 with (first
    | (go_at_call 126; ((with_reducible refine (mask_New.calls A1 c1 b _ H1.out hb0 hb1 HW1.out).mono ?_); rintro e w1 ⟨mb, rb, rfl, hm, hb⟩; have HM := Aside0.mk hm; have HB := Aside0.mk hb; clear hm hb))
    | (go_at_call 127; ((with_reducible refine (first_word b a hb0 hb1 _).mono ?_); rintro e w2 ⟨p0, rfl, hp, hb⟩; have HP := Aside0.mk hp; have n0_ := Aside0.mk (below_step HB.out hb); have n1_ := Aside0.mk (HM.out.below hb); clear HB HM hp hb; have HB := n0_; have HM := n1_; clear n0_ n1_)))
  go_wp2_with fail
  go_loopw [46, 12, 13] (fun v46 v12 v13 wr => ∃ (i : Nat) (p : Nat × Nat) (ks : List (Nat × Nat)), i ≤ a.length ∧ v46 = .int .i64 i ∧ v12 = .slice (some ⟨p.1, 0, none⟩) 1 p.2 ∧ i ≤ ks.length * ev ∧ ks.length * ev < i + ev ∧ Aside0 (Below w.heap.size w wr) ∧ Aside0 (MasksAt wr mb rb b) ∧ Aside0 (WordAt wr p (VN a b i)) ∧ Aside0 (kW.R 196 wr w.heap.size (fun _ => True) v13 ks) ∧ Aside0 (WordsAt wr ks (fun q => VN a b (q * ev)))) (fun v46 _ _ _ => a.length - (intOf v46).toNat)
  case atStart => exact ⟨0, p0, [], by omega, rfl, rfl, by simp, by simp; omega, HB, HM, HP, ⟨Kd.R_nil _ _ _ _ _⟩, ⟨fun q p h => by simp at h⟩⟩
  case round =>
    clear HB HM HP
    obtain ⟨i, p, ks, hi, rfl, rfl, hk1, hk2, HB, HM, HP, HO, HS⟩ := hrel
    by_cases hlt : i < a.length
    · obtain ⟨ad, rfl, hx⟩ := Kd.at_int (Kd.C_below H0.out HB.out) (i : Int) (by omega) (by omega)
      rw [Int.toNat_natCast] at hx
      have HWX := Aside0.mk (HW0.out _ (rd_mem hlt))
      have hc0 : (0 : Int) ≤ (i : Int) := by omega
      have hc1 : (i : Int) < (a.length : Int) := by omega
      have hev0 : ((ev : Int) == 0) = false := beq_eq_false_iff_ne.mpr (by omega)
      obtain ⟨s1, s2⟩ := kept_step i ev ks.length he0 hk1 hk2
      obtain ⟨Kn, hKn⟩ : ∃ Kn, ks.length * ev = Kn := ⟨_, rfl⟩
      have hkl : ks.length ≤ 100 := by
        have : ks.length * 1 ≤ ks.length * ev := Nat.mul_le_mul_left _ he0
        omega
      by_cases hm : i % ev = 0
      · have hm' : ((i : Int) % (ev : Int) == 0) = true := by rw [beq_iff_eq, ← Int.natCast_emod, hm]; rfl
        have HQ := Aside0.mk (s1 hm)
        clear s1 s2 hm
        go_wp2_with (first
          | ((with_reducible refine gate_builtin (b := .append) (xs := #[.tmp 55, .tmp 57]) rfl ?_); refine Kd.R_append kW (w0 := w) w.heap.size rfl (.tmp 55) (.tmp 57) 198 196 (.slice none 0 0) 24 rfl Tryz.underlying198 inf196_ rfl (by decide) (by omega) u13 ks p [.slice (some ⟨p.1, 0, none⟩) 1 p.2] (fun _ => True) (fun _ => False) rfl rfl rfl (fun _ hk => hk.elim) (fun _ _ => trivial) HO.out HB.out HB.out.size (by omega) ?_; intro v2 w2 ho hb hg hat; have n0_ := Aside0.mk (HM.out.grown hg (row_typed2 HO.out (by decide))); have n1_ := Aside0.mk (HP.out.grown hg (row_typed HO.out (by decide))); have n2_ := Aside0.mk (HS.out.grown hg (row_typed HO.out (by decide))); clear HM HP HS HO HB; have HM := n0_; have HP := n1_; have HS := n2_; have HO := Aside0.mk ho; have HB := Aside0.mk hb; clear n0_ n1_ n2_ ho hb hg hat)
          | (go_at_call 129; ((with_reducible refine (masks_Of.calls mb rb b _ _ HM.out hb0 hb1 HWX.out).mono ?_); rintro e w3 ⟨v3, rfl, hv, hb⟩; have HV := Aside0.mk hv; have n0_ := Aside0.mk (HM.out.below hb); have n1_ := Aside0.mk (HP.out.below hb); have n2_ := Aside0.mk (HS.out.below hb); have n3_ := Aside0.mk (Kd.R_below HO.out hb); have n4_ := Aside0.mk (below_step HB.out hb); clear HM HP HS HO HB hv hb; have HM := n0_; have HP := n1_; have HS := n2_; have HO := n3_; have HB := n4_; clear n0_ n1_ n2_ n3_ n4_))
          | (go_at_call 128; ((with_reducible refine (next_word _ p a b i hlt hb0 hb1 HP.out _ _ _ HV.out).mono ?_); rintro e w4 ⟨p2, rfl, hp, hb⟩; have HP2 := Aside0.mk hp; have n0_ := Aside0.mk (HM.out.below hb); have n1_ := Aside0.mk (HP.out.below hb); have n2_ := Aside0.mk (HS.out.below hb); have n3_ := Aside0.mk (Kd.R_below HO.out hb); have n4_ := Aside0.mk (below_step HB.out hb); clear HM HP HS HO HB hp hb; have HM := n0_; have HP := n1_; have HS := n2_; have HO := n3_; have HB := n4_; clear n0_ n1_ n2_ n3_ n4_)))
        go_roundw
        case rel => exact ⟨i + 1, p2, ks ++ [p], by omega, by go_num, rfl, by rw [List.length_append, List.length_singleton, Nat.add_mul, HQ.out]; omega, by rw [List.length_append, List.length_singleton, Nat.add_mul, HQ.out]; omega, HB, HM, HP2, HO, ⟨HS.out.snoc (by rw [HQ.out]; exact HP.out)⟩⟩
        case measure => simp [intOf]; omega
      · have hm' : ((i : Int) % (ev : Int) == 0) = false := by rw [beq_eq_false_iff_ne]; intro h; apply hm; rw [← Int.natCast_emod] at h; exact_mod_cast h
        have hQ := s2 hm
        clear s1 s2 hm
        go_wp2_with (first
          | (go_at_call 129; ((with_reducible refine (masks_Of.calls mb rb b _ _ HM.out hb0 hb1 HWX.out).mono ?_); rintro e w3 ⟨v3, rfl, hv, hb⟩; have HV := Aside0.mk hv; have n0_ := Aside0.mk (HM.out.below hb); have n1_ := Aside0.mk (HP.out.below hb); have n2_ := Aside0.mk (HS.out.below hb); have n3_ := Aside0.mk (Kd.R_below HO.out hb); have n4_ := Aside0.mk (below_step HB.out hb); clear HM HP HS HO HB hv hb; have HM := n0_; have HP := n1_; have HS := n2_; have HO := n3_; have HB := n4_; clear n0_ n1_ n2_ n3_ n4_))
          | (go_at_call 128; ((with_reducible refine (next_word _ p a b i hlt hb0 hb1 HP.out _ _ _ HV.out).mono ?_); rintro e w4 ⟨p2, rfl, hp, hb⟩; have HP2 := Aside0.mk hp; have n0_ := Aside0.mk (HM.out.below hb); have n1_ := Aside0.mk (HP.out.below hb); have n2_ := Aside0.mk (HS.out.below hb); have n3_ := Aside0.mk (Kd.R_below HO.out hb); have n4_ := Aside0.mk (below_step HB.out hb); clear HM HP HS HO HB hp hb; have HM := n0_; have HP := n1_; have HS := n2_; have HO := n3_; have HB := n4_; clear n0_ n1_ n2_ n3_ n4_)))
        go_roundw
        case rel => exact ⟨i + 1, p2, ks, by omega, by go_num, rfl, by omega, by omega, HB, HM, HP2, HO, HS⟩
        case measure => simp [intOf]; omega
    · obtain rfl : i = a.length := by omega
      obtain ⟨Av, cv, rfl⟩ := Kd.R_slice HO.out
      clear HP
      have HKE := Aside0.mk (And.intro hk1 hk2)
      have hkl : ks.length ≤ 100 := by
        have : ks.length * 1 ≤ ks.length * ev := Nat.mul_le_mul_left _ he0
        omega
      clear hk1 hk2
      go_wp2_with fail
      go_loopw [18, 17, 16] (fun v18 v17 v16 wr => ∃ (kk j : Nat) (qs : List (Nat × Nat)), kk ≤ ks.length ∧ v18 = .int .i64 ((kk : Int) - 1) ∧ j ≤ b.length ∧ v17 = .int .i64 j ∧ Aside0 (qs ++ backW a b (min (kk * ev) a.length) j = backW a b a.length b.length) ∧ Aside0 (Below w.heap.size w wr) ∧ Aside0 (MasksAt wr mb rb b) ∧ Aside0 (kW.R 196 wr w.heap.size (fun _ => True) (.slice Av ks.length cv) ks) ∧ Aside0 (WordsAt wr ks (fun q => VN a b (q * ev))) ∧ Aside0 (Kd.R k54 54 wr w.heap.size (fun _ => True) v16 (qs.map toP))) (fun v18 _ _ _ => (intOf v18 + 1).toNat)
      case atStart =>
        refine ⟨ks.length, b.length, [], Nat.le_refl _, rfl, Nat.le_refl _, rfl, ⟨?_⟩, HB, HM, HO, HS, ⟨Kd.R_nil _ _ _ _ _⟩⟩
        rw [Nat.min_eq_right HKE.out.1, List.nil_append]
      case round =>
        clear HB HM HO HS
        obtain ⟨kk, j, qs, hkk, rfl, hj, rfl, HQ, HB, HM, HO, HS, HL⟩ := hrel
        cases kk with
        | zero =>
          rw [Nat.zero_mul, Nat.zero_min, backW_none', List.append_nil] at HQ
          have HST := Aside0.mk (steps_some a.length b.length ha hb0 hb1)
          have hql : (qs.map toP).length ≤ 100 := by
            have h := congrArg List.length HQ.out
            have h2 := backW_len a b (a.length + b.length) a.length b.length (Nat.le_refl _) (Nat.le_refl _) (Nat.le_refl _)
            have h3 := H_le_left a b a.length b.length
            rw [h2] at h
            rw [List.length_map]
            omega
          have HRV := Aside0.mk (api_Pair_eq (qs.map toP) (by omega) 1000 (by omega))
          clear hql
          generalize hps : qs.map toP = ps at HL HRV
          have HPS := Aside0.mk hps
          clear hps
          obtain ⟨Aq, cq, rfl⟩ := Kd.R_slice HL.out
          go_wp2_with (first
            | (go_at_call 117; ((with_reducible refine (api_Pair.calls 1000 (fun _ => True) _ ps _ w _ HB.out HL.out HRV.out).mono ?_); rintro e w3 ⟨rfl, ho, hb, _⟩; have HO3 := Aside0.mk ho; have HB3 := Aside0.mk hb; clear ho hb))
            | (go_at_call 131; ((with_reducible refine (hyyro_Steps.calls _ _ _ _ HST.out).mono ?_); rintro e w4 ⟨rfl, hb⟩; have HO4 := Aside0.mk (Kd.R_below HO3.out hb); have HB4 := Aside0.mk (below_step HB3.out hb); clear hb)))
          go_ret3
          refine ⟨_, _, rfl, ?_, HB4.out⟩
          have h := Kd.R_mono HO4.out (ok' := fun _ => True) (fun _ _ => trivial)
          have e : ps.reverse = (backW a b a.length b.length).reverse.map toP := by rw [← HPS.out, ← List.map_reverse, HQ.out]
          rw [e] at h
          exact h
        | succ k =>
          have ek : (((k + 1 : Nat) : Int) - 1) = (k : Int) := by omega
          rw [ek]
          clear ek
          obtain ⟨f, hf⟩ : ∃ f, k * ev = f := ⟨_, rfl⟩
          have hfn : f < a.length := by
            have h1 := Nat.mul_le_mul_right ev hkk
            rw [Nat.add_mul, Nat.one_mul, hf] at h1
            have := HKE.out.2
            omega
          have hfe : (k + 1) * ev = f + ev := by rw [Nat.add_mul, Nat.one_mul, hf]
          rw [hfe] at HQ
          have hmul : wrap64 ((k : Int) * (ev : Int)) = (f : Int) := by
            rw [show (k : Int) * (ev : Int) = ((k * ev : Nat) : Int) by push_cast; rfl, hf]
            exact wrap_in (by omega) (by omega)
          obtain ⟨gk, hAv, hzk, hkp⟩ := words_at HO.out HS.out (q := k) (by omega)
          have HKP := hkp
          simp only [hf] at HKP
          subst hAv
          generalize ks.getD k (0, 0) = p0k at HKP hzk
          have HF := Aside0.mk (show min (k * ev) a.length = f by rw [hf]; omega)
          clear hfe hf hkp
          have hk0 : (0 : Int) ≤ (k : Int) := by omega
          have hk1 : (k : Int) < (ks.length : Int) := by omega
          obtain ⟨t, ht⟩ : ∃ t, min (f + ev) a.length = t := ⟨_, rfl⟩
          rw [ht] at HQ
          have HT := Aside0.mk (show (t : Int) = if (a.length : Int) < (f : Int) + (ev : Int) then (a.length : Int) else (f : Int) + (ev : Int) by split <;> omega)
          have htl : f + 1 ≤ t ∧ t ≤ a.length := by omega
          clear ht
          go_upto_region 20 with fail
          rw [← HT.out, hmul]
          clear hmul
          go_wp2_with fail
          have n0_ := Aside0.mk (below_alloc (Below.refl wr.heap.size wr) (Obj.cells #[.slice (some ⟨p0k.1, 0, none⟩) 1 p0k.2] 196))
          have HR := Aside0.mk (lit_words wr p0k w.heap.size HB.out.size)
          have n1_ := Aside0.mk (HM.out.below n0_.out)
          have n2_ := Aside0.mk (HS.out.below n0_.out)
          have n3_ := Aside0.mk (Kd.R_mono (ok' := fun q => q < wr.heap.size) (Kd.R_below (Kd.R_bound HO.out) n0_.out) (fun q hq => hq.2.2.1))
          have n4_ := Aside0.mk (Kd.R_below HL.out n0_.out)
          have n5_ := Aside0.mk (HKP.out.below n0_.out)
          have n6_ := Aside0.mk (below_step HB.out n0_.out)
          have HLT := Aside0.mk HB.out.size
          have HBB := Aside0.mk n0_.out.size
          clear HM HS HO HL HKP HB n0_ hzk
          generalize wr.alloc (Obj.cells #[.slice (some ⟨p0k.1, 0, none⟩) 1 p0k.2] 196) = w20 at HR HBB n1_ n2_ n3_ n4_ n5_ n6_ ⊢
          have HM := n1_
          have HS := n2_
          have HO := n3_
          have HL := n4_
          have HKP := n5_
          have HB := n6_
          clear n1_ n2_ n3_ n4_ n5_ n6_
          generalize wr.heap.size = B at HR HO HLT HBB ⊢
          go_loopw [22, 21] (fun v22 v21 wr => ∃ (i d : Nat) (rs : List (Nat × Nat)), i ≤ t ∧ i ≤ f + d ∧ f + d ≤ i ∧ v22 = .int .i64 i ∧ rs.length ≤ d + 1 ∧ d + 1 ≤ rs.length ∧ Aside0 (Below w.heap.size w wr) ∧ Aside0 (MasksAt wr mb rb b) ∧ Aside0 (kW.R 196 wr w.heap.size (fun q => q < B) (.slice (some ⟨gk, 0, none⟩) ks.length cv) ks) ∧ Aside0 (WordsAt wr ks (fun q => VN a b (q * ev))) ∧ Aside0 (Kd.R k54 54 wr w.heap.size (fun _ => True) u16 (qs.map toP)) ∧ Aside0 (kW.R 196 wr w.heap.size (fun k => B ≤ k) v21 rs) ∧ Aside0 (WordsAt wr rs (fun q => VN a b (f + q))) ∧ Aside0 (B ≤ wr.heap.size)) (fun v22 _ _ => t - (intOf v22).toNat)
          case atStart => exact ⟨f, 0, [p0k], by omega, by omega, by omega, rfl, by simp, by simp, HB, HM, HO, HS, HL, HR, ⟨fun q p h => by
            have hq : q = 0 := by have := (List.getElem?_eq_some_iff.1 h).1; simpa using this
            subst hq
            obtain rfl : p0k = p := by simpa using h
            exact HKP.out⟩, HBB⟩
          case round =>
            clear HB HM HO HS HL HR HKP HBB
            obtain ⟨i, d, rs, hi, hd1, hd2, rfl, hrl, hrm, HB, HM, HO, HS, HL, HR, HRS, HBB⟩ := hrel
            obtain ⟨Ar, cr, rfl⟩ := Kd.R_slice HR.out
            by_cases hlt : i < t
            · have hia : i < a.length := by omega
              obtain ⟨ad, rfl, hx0⟩ := Kd.at_int H0.out (i : Int) (by omega) (by omega)
              rw [Int.toNat_natCast] at hx0
              have hx := pw_cell_below HB.out hx0
              have HWX := Aside0.mk (HW0.out _ (rd_mem hia))
              obtain ⟨gr, hAr, hzr, HPR⟩ := words_at HR.out HRS.out (q := d) (by omega)
              rw [show f + d = i by omega] at HPR
              subst hAr
              generalize rs.getD d (0, 0) = pr at hzr HPR
              have e1 : IntKind.i64.wrap ((i : Int) - (f : Int)) = (d : Int) := by rw [IntWalk.i64_in _ (by omega)]; omega
              have g0 : (0 : Int) ≤ (d : Int) := by omega
              have g1 : (d : Int) < (rs.length : Int) := by omega
              have g2 : (0 : Int) ≤ (i : Int) := by omega
              have g3 : (i : Int) < (a.length : Int) := by omega
              have g4 : decide ((i : Int) < (t : Int)) = true := decide_eq_true (by omega)
              have hrl2 : (rs.length + 1) * 24 ≤ 140737488355328 := by omega
              go_upto_region 24 with fail
              have HBd := Aside0.mk (below_drew (Below.refl wr.heap.size wr))
              have hgr := Kd.R_base HR.out gr rfl
              have hge := HR.out.1 gr rfl
              have hs0 := HB.out.size
              have hs1 := HBB.out
              go_region_held3 (fun W => W.cell? ⟨gr, d, none⟩ = some (.slice (some ⟨pr.1, 0, none⟩) 1 pr.2) ∧ W.cell? (ad.add i) = some (.int .i64 (rd a (i : Int)))) (first | trivial | exact ⟨hzr, hx⟩ | exact hz3 | exact hz4 | exact hz5 | go_keep) (first
                | (go_at_call 129; (with_reducible refine (masks_Of.calls mb rb b _ _ (HM.out.below HBd.out) hb0 hb1 HWX.out).mono ?_); rintro e w3 ⟨v3, rfl, hv, hb⟩; have HV := Aside0.mk hv; have HB3 := Aside0.mk (below_step HBd.out hb); have hz3 := And.intro (pw_cell_below (below_step HBd.out hb) hzr) (pw_cell_below (below_step HBd.out hb) hx); clear hv hb)
                | (go_at_call 128; (with_reducible refine (next_word _ pr a b i hia hb0 hb1 (HPR.out.below HB3.out) _ _ _ HV.out).mono ?_); rintro e w4 ⟨p2, rfl, hp, hb⟩; have HP2 := Aside0.mk hp; have HB4 := Aside0.mk (below_step HB3.out hb); have hs4 := HB4.out.size; have hz4 := And.intro (pw_cell_below HB4.out hzr) (pw_cell_below HB4.out hx); clear hp hb)
                | (obtain ⟨v5, w5, hr5, ho, hg, hcl⟩ := words_push (W := w4.alloc (Obj.cells #[.slice (some ⟨p2.1, 0, none⟩) 1 p2.2] 196)) (Kd.R_below (Kd.R_below HR.out HB4.out) (below_alloc (Below.refl _ _) _)) (by omega) (by omega) (by rw [alloc_sz]; omega) p2 198 (alloc_at w4 _); have HB5 := Aside0.mk ((below_alloc (below_step HB.out HB4.out) (Obj.cells #[.slice (some ⟨p2.1, 0, none⟩) 1 p2.2] 196)).grown hg (by rw [alloc_sz]; omega) (fun k e => by injection e with e; omega)); have HO5 := Aside0.mk ho; have HG5 := Aside0.mk hg; have hz5 := And.intro ((hcl d (by omega)).trans (pw_cell_below (below_alloc (Below.refl _ w4) (Obj.cells #[.slice (some ⟨p2.1, 0, none⟩) 1 p2.2] 196)) hz4.1)) (pw_cell_below HB5.out hx0); refine step_append_run ?g1 (.tmp 99) (.tmp 116) 198 ?g2 ?g3 ?g4 hr5 ?_; (case g1 => rfl); (case g2 => rfl); (case g3 => rfl); (case g4 => rfl); clear ho hg hcl hr5))
              have HBA := Aside0.mk (below_alloc HB4.out (Obj.cells #[.slice (some ⟨p2.1, 0, none⟩) 1 p2.2] 196))
              have HTY := Aside0.mk (row_typed2 (Kd.R_below HR.out HBA.out) (by decide))
              have HTY1 := Aside0.mk (fun k hk => (fun ⟨cells, t, h1, h2, _⟩ => ⟨cells, t, h1, h2⟩ : (∃ cells t, _ ∧ t ≠ 233 ∧ t ≠ 231) → ∃ cells t, (w4.alloc (Obj.cells #[.slice (some ⟨p2.1, 0, none⟩) 1 p2.2] 196)).heap[k]? = some (.cells cells t (0, 0)) ∧ t ≠ 233) (HTY.out k hk))
              have hs5 := HG5.out.size
              rw [alloc_sz] at hs5
              go_wp2
              go_roundw
              case rel =>
                refine ⟨i + 1, d + 1, rs ++ [p2], by omega, by omega, by omega, by go_num, by rw [List.length_append]; simp; omega, by rw [List.length_append]; simp; omega, HB5, ⟨(HM.out.below HBA.out).grown HG5.out HTY.out⟩, ⟨Kd.R_grown (Kd.R_below HO.out HBA.out) HG5.out (fun k hk e => by injection e with e; omega)⟩, ⟨(HS.out.below HBA.out).grown HG5.out HTY1.out⟩, ⟨Kd.R_over' (v := .slice (some ⟨gr, 0, none⟩) rs.length cr) (Kd.R_below HL.out HBA.out) (Kd.R_typed (Kd.R_below HR.out HBA.out)) (by decide) HG5.out⟩, ⟨Kd.R_mono HO5.out (fun k hk => by rcases hk with hk | hk; exact hk; rw [alloc_sz] at hk; omega)⟩, ⟨((HRS.out.below HBA.out).grown HG5.out HTY1.out).snoc ?_⟩, ⟨by omega⟩⟩
                rw [show f + rs.length = i + 1 by omega]
                exact (HP2.out.below (below_alloc (Below.refl _ _) _)).grown HG5.out HTY1.out
              case measure => simp [intOf]; omega
            · obtain rfl : i = t := by omega
              go_wp2_with fail
              have HRL := Aside0.mk (And.intro hd1 hrm)
              clear hd1 hd2 hrl hrm
              go_loopw [23, 17, 16] (fun v23 v17 v16 wr => ∃ (p j : Nat) (qs : List (Nat × Nat)), f ≤ p ∧ p ≤ i ∧ j ≤ b.length ∧ v23 = .int .i64 p ∧ v17 = .int .i64 j ∧ Aside0 (qs ++ backW a b p j = backW a b a.length b.length) ∧ Aside0 (Below w.heap.size w wr) ∧ Aside0 (MasksAt wr mb rb b) ∧ Aside0 (kW.R 196 wr w.heap.size (fun _ => True) (.slice (some ⟨gk, 0, none⟩) ks.length cv) ks) ∧ Aside0 (WordsAt wr ks (fun q => VN a b (q * ev))) ∧ Aside0 (Kd.R k54 54 wr w.heap.size (fun _ => True) v16 (qs.map toP)) ∧ Aside0 (kW.R 196 wr w.heap.size (fun k => B ≤ k) (.slice Ar rs.length cr) rs) ∧ Aside0 (WordsAt wr rs (fun q => VN a b (f + q)))) (fun v23 v17 _ _ => (intOf v23).toNat + (intOf v17).toNat)
              case atStart => exact ⟨i, j, qs, by omega, Nat.le_refl _, hj, rfl, rfl, HQ, HB, HM, ⟨Kd.R_mono HO.out (fun _ _ => trivial)⟩, HS, HL, HR, HRS⟩
              case round =>
                clear HB HM HO HS HL HR HRS HQ
                obtain ⟨p, j, qs, hp1, hp2, hj, rfl, rfl, HQ, HB, HM, HO, HS, HL, HR, HRS⟩ := hrel
                by_cases h1 : f < p
                · have t1 : decide ((f : Int) < (p : Int)) = true := decide_eq_true (by omega)
                  have t1' : decide (f < p) = true := decide_eq_true h1
                  by_cases h2 : 0 < j
                  · have t2 : decide (0 < (j : Int)) = true := decide_eq_true (by omega)
                    obtain ⟨i1, hi1⟩ : ∃ i1, p = i1 + 1 := ⟨p - 1, by omega⟩
                    obtain ⟨j1, hj1⟩ : ∃ j1, j = j1 + 1 := ⟨j - 1, by omega⟩
                    have HI := Aside0.mk hi1
                    have HJ := Aside0.mk hj1
                    have a1 : i1 < a.length := by omega
                    have a2 : j1 < b.length := by omega
                    have a3 : f ≤ i1 := by omega
                    have a4 : i1 + 1 ≤ p := by omega
                    have a5 : j1 + 1 ≤ j := by omega
                    have e1 : (p : Int) - 1 = (i1 : Int) := by omega
                    have e2 : (j : Int) - 1 = (j1 : Int) := by omega
                    have e3 : IntKind.i64.wrap ((p : Int) - 1) = (i1 : Int) := by rw [IntWalk.i64_in _ (by omega)]; omega
                    have e4 : IntKind.i64.wrap ((j : Int) - 1) = (j1 : Int) := by rw [IntWalk.i64_in _ (by omega)]; omega
                    obtain ⟨d, hd⟩ : ∃ d, p = f + d := ⟨p - f, by omega⟩
                    have e5 : (p : Int) - (f : Int) = (d : Int) := by omega
                    have hdl : d < rs.length := by have := HRL.out; omega
                    obtain ⟨gr, hAr, hzr, HPR⟩ := words_at HR.out HRS.out hdl
                    rw [← hd] at HPR
                    subst hAr
                    generalize rs.getD d (0, 0) = pr at hzr HPR
                    have g1 : (0 : Int) ≤ (d : Int) := by omega
                    have g2 : (d : Int) < (rs.length : Int) := by omega
                    clear hi1 hj1 hd h1 h2
                    have HV := Aside0.mk (get_word wr pr a b p j1 a2 hb1 HPR.out)
                    have HBW := Aside0.mk (backW_step a b i1 j1)
                    have m1 : (p : Int).toNat + (j : Int).toNat > 0 := by omega
                    by_cases hv : vbit a b p j1 = true
                    · rw [hv] at HV
                      have HQ2 := Aside0.mk (show qs ++ backW a b p j1 = backW a b a.length b.length by
                        have h := HQ.out
                        rw [HI.out, HJ.out, HBW.out, if_pos (by rw [← HI.out]; exact hv), ← HI.out] at h
                        exact h)
                      clear hv
                      go_wp2_with (first | (go_at_call 130; ((with_reducible refine HV.out.mono ?_); rintro e w3 ⟨rfl, nd, rfl⟩)))
                      go_roundw
                      case rel => exact ⟨p, j1, qs, hp1, hp2, by omega, rfl, rfl, HQ2, ⟨pw_below_drewN HB.out nd⟩, ⟨HM.out.below (pw_below_drewN (Below.refl _ _) nd)⟩, ⟨Kd.R_drewN HO.out nd⟩, ⟨HS.out.below (pw_below_drewN (Below.refl _ _) nd)⟩, ⟨Kd.R_drewN HL.out nd⟩, ⟨Kd.R_drewN HR.out nd⟩, ⟨HRS.out.below (pw_below_drewN (Below.refl _ _) nd)⟩⟩
                      case measure => simp [intOf]; omega
                    · rw [Bool.eq_false_iff.2 hv] at HV
                      obtain ⟨ad0, rfl, hx⟩ := Kd.at_int H0.out (i1 : Int) (by omega) (by omega)
                      obtain ⟨ad1, rfl, hy⟩ := Kd.at_int H1.out (j1 : Int) (by omega) (by omega)
                      rw [Int.toNat_natCast] at hx hy
                      have g3 : (0 : Int) ≤ (i1 : Int) := by omega
                      have g4 : (i1 : Int) < (a.length : Int) := by omega
                      have g5 : (0 : Int) ≤ (j1 : Int) := by omega
                      have g6 : (j1 : Int) < (b.length : Int) := by omega
                      have HVF := Aside0.mk (show ¬ vbit a b (i1 + 1) j1 = true by rw [← HI.out]; exact hv)
                      have hql : qs.length ≤ 100 := by
                        have h := congrArg List.length HQ.out
                        have h2 := backW_len a b (a.length + b.length) a.length b.length (Nat.le_refl _) (Nat.le_refl _) (Nat.le_refl _)
                        have h3 := H_le_left a b a.length b.length
                        rw [List.length_append, h2] at h
                        omega
                      have HQL := Aside0.mk (show (qs.map toP).length ≤ 100 by rw [List.length_map]; exact hql)
                      clear hv hql
                      go_upto_region 30 with (first | (go_at_call 130; ((with_reducible refine HV.out.mono ?_); rintro e w3 ⟨rfl, nd, rfl⟩)))
                      have hbd := pw_below_drewN (Below.refl wr.heap.size wr) nd
                      have n0_ := Aside0.mk (below_step HB.out hbd)
                      have n1_ := Aside0.mk (HM.out.below hbd)
                      have n2_ := Aside0.mk (Kd.R_below HO.out hbd)
                      have n3_ := Aside0.mk (HS.out.below hbd)
                      have n4_ := Aside0.mk (Kd.R_below HL.out hbd)
                      have n5_ := Aside0.mk (Kd.R_below HR.out hbd)
                      have n6_ := Aside0.mk (HRS.out.below hbd)
                      clear HB HM HO HS HL HR HRS HV HPR hzr hbd
                      generalize wr.drewN nd = w3 at n0_ n1_ n2_ n3_ n4_ n5_ n6_ ⊢
                      have hx := pw_cell_below n0_.out hx
                      have hy := pw_cell_below n0_.out hy
                      by_cases he : rd a (i1 : Int) = rd b (j1 : Int)
                      · have c7 : (rd a (i1 : Int) == rd b (j1 : Int)) = true := beq_iff_eq.mpr he
                        have HQ2 := Aside0.mk (show (qs ++ [(i1, j1)]) ++ backW a b i1 j1 = backW a b a.length b.length by
                          have h := HQ.out
                          rw [HI.out, HJ.out, HBW.out, if_neg HVF.out, if_pos (by simpa [rd] using he)] at h
                          rw [List.append_assoc]
                          exact h)
                        clear he
                        go_quiet (fail)
                        have hbd := pw_below_drewN (Below.refl w3.heap.size w3) nq
                        have HB := Aside0.mk (below_step n0_.out hbd)
                        have HM := Aside0.mk (n1_.out.below hbd)
                        have HO := Aside0.mk (Kd.R_below n2_.out hbd)
                        have HS := Aside0.mk (n3_.out.below hbd)
                        have HL := Aside0.mk (Kd.R_below n4_.out hbd)
                        have HR := Aside0.mk (Kd.R_below n5_.out hbd)
                        have HRS := Aside0.mk (n6_.out.below hbd)
                        clear n0_ n1_ n2_ n3_ n4_ n5_ n6_ hx hy hbd
                        generalize w3.drewN nq = w4 at HB HM HO HS HL HR HRS ⊢
                        have hs4 := HB.out.size
                        go_wp2_with (first
                          | ((with_reducible refine gate_builtin (b := .append) (xs := #[.tmp 152, .tmp 158]) rfl ?_); refine Kd.R_append k54 (w0 := w) w.heap.size rfl (.tmp 152) (.tmp 158) 32 54 (.agg #[(.int .i64 0), (.int .i64 0)]) 16 rfl Tryz.underlying32 info54 rfl (by decide) (by omega) u16 (qs.map toP) (⟨i1, j1⟩ : S54) [.int .i64 i1, .int .i64 j1] (fun _ => True) (fun _ => False) rfl rfl (k54_mkM _ _ _ (⟨i1, j1⟩ : S54)) (fun _ hk => hk.elim) (fun _ _ => trivial) HL.out HB.out hs4 (by have := HQL.out; omega) ?_; intro v5 w5 ho hb hg hat; have HO5 := Aside0.mk ho; have HB5 := Aside0.mk hb; have HG5 := Aside0.mk hg; clear ho hb hg hat))
                        go_roundw
                        case rel =>
                          refine ⟨i1, j1, qs ++ [(i1, j1)], by omega, by omega, by omega, rfl, rfl, HQ2, HB5, ⟨HM.out.grown HG5.out (row_typed2 HL.out (by decide))⟩, ⟨Kd.R_over' HO.out (Kd.R_typed HL.out) (by decide) HG5.out⟩, ⟨HS.out.grown HG5.out (row_typed HL.out (by decide))⟩, ⟨?_⟩, ⟨Kd.R_over' HR.out (Kd.R_typed HL.out) (by decide) HG5.out⟩, ⟨HRS.out.grown HG5.out (row_typed HL.out (by decide))⟩⟩
                          rw [List.map_append]
                          exact HO5.out
                        case measure => simp [intOf]; omega
                      · have c7 : (rd a (i1 : Int) == rd b (j1 : Int)) = false := beq_eq_false_iff_ne.mpr he
                        have HQ2 := Aside0.mk (show qs ++ backW a b i1 j = backW a b a.length b.length by
                          have h := HQ.out
                          rw [HI.out, HJ.out, HBW.out, if_neg HVF.out, if_neg (by simpa [rd] using he), ← HJ.out] at h
                          exact h)
                        clear he
                        go_quiet (fail)
                        have hbd := pw_below_drewN (Below.refl w3.heap.size w3) nq
                        have HB := Aside0.mk (below_step n0_.out hbd)
                        have HM := Aside0.mk (n1_.out.below hbd)
                        have HO := Aside0.mk (Kd.R_below n2_.out hbd)
                        have HS := Aside0.mk (n3_.out.below hbd)
                        have HL := Aside0.mk (Kd.R_below n4_.out hbd)
                        have HR := Aside0.mk (Kd.R_below n5_.out hbd)
                        have HRS := Aside0.mk (n6_.out.below hbd)
                        clear n0_ n1_ n2_ n3_ n4_ n5_ n6_ hx hy hbd
                        generalize w3.drewN nq = w4 at HB HM HO HS HL HR HRS ⊢
                        go_wp2
                        go_roundw
                        case rel => exact ⟨i1, j, qs, by omega, by omega, by omega, rfl, rfl, HQ2, HB, HM, HO, HS, HL, HR, HRS⟩
                        case measure => simp [intOf]; omega
                  · obtain rfl : j = 0 := by omega
                    have t2 : decide (0 < ((0 : Nat) : Int)) = false := by decide
                    have t3 : decide (0 < (0 : Int)) = false := by decide
                    rw [backW_none] at HQ
                    go_wp2_with fail
                    go_roundw
                    case rel =>
                      refine ⟨k, 0, qs, by omega, rfl, by omega, rfl, ⟨?_⟩, HB, HM, HO, HS, HL⟩
                      rw [backW_none]
                      exact HQ.out
                    case measure => simp [intOf]
                · obtain rfl : p = f := by omega
                  have t1 : decide ((p : Int) < (p : Int)) = false := decide_eq_false (by omega)
                  go_wp2_with fail
                  go_roundw
                  case rel => exact ⟨k, j, qs, by omega, rfl, hj, rfl, ⟨by rw [HF.out]; exact HQ.out⟩, HB, HM, HO, HS, HL⟩
                  case measure => simp [intOf]
end Go.Proofs.YtdiojfaenfggkaaGreat.PTopNear
