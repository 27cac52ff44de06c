/- A part of this law; its conditions stand in the last text. -/
import Derived.Test.YtkgafkoopefghaaGreatDoorRc5
import Derived.Test.YtkgafkoopefghaaGreatDoorRc11
section
namespace Go.Proofs.YtkgafkoopefghaaGreatDoor.PA
open Go.RowKit Go.Proofs.YtkgafkoopefghaaGreatDoorW.PrintWords Go.Proofs.YtkgafkoopefghaaGreatDoorW.PrintLast Go.Proofs.YtkgafkoopefghaaGreatDoorW.PrintMore
open Go.Proofs.YtkgafkoopefghaaGreatDoor.Hk
attribute [local go_sem] max2_int min2_int max_two min_two max_three min_three max_four min_four
set_option linter.unusedVariables false
set_option linter.unusedSimpArgs false
attribute [local go_sem high] eqA31
mutual
def majordomoref06_Same.j0 : Nat → Bool → ByteArray → ByteArray → List (S31) → ByteArray → ByteArray → List (S31) → Option (Bool)
 | 0, _, _, _, _, _, _, _ => none
 | k + 1, x26, x392000, x392001, x392002, x393000, x393001, x393002 => if x26 = true then (some false) else (majordomoref06_Same.l0 k 0 x392000 x392001 x392002 x393000 x393001 x393002)
def majordomoref06_Same.l0 : Nat → Int → ByteArray → ByteArray → List (S31) → ByteArray → ByteArray → List (S31) → Option (Bool)
 | 0, _, _, _, _, _, _, _ => none
 | k + 1, x5, x392000, x392001, x392002, x393000, x393001, x393002 => if x5 < (x392002.length : Int) then (if 0 ≤ x5 then (if x5 < (x393002.length : Int) then (if (!((((rd_T31 x392002 x5).f0).toList) == (((rd_T31 x393002 x5).f0).toList)) || (!((((rd_T31 x392002 x5).f1).toList) == (((rd_T31 x393002 x5).f1).toList)))) = true then (some false) else (majordomoref06_Same.l0 k (wrap64 (x5 + 1)) x392000 x392001 x392002 x393000 x393001 x393002)) else (none)) else (none)) else (some true)
end
def majordomoref06_Same.f (k : Nat) (a0_0 : ByteArray) (a0_1 : ByteArray) (l0_2 : List (S31)) (a1_0 : ByteArray) (a1_1 : ByteArray) (l1_2 : List (S31)) : Option (Bool) := if a0_0.toList = a1_0.toList then (if a0_1.toList = a1_1.toList then (majordomoref06_Same.j0 k ((l0_2.length : Int) != (l1_2.length : Int)) a0_0 a0_1 l0_2 a1_0 a1_1 l1_2) else (majordomoref06_Same.j0 k true a0_0 a0_1 l0_2 a1_0 a1_1 l1_2)) else (majordomoref06_Same.j0 k true a0_0 a0_1 l0_2 a1_0 a1_1 l1_2)
set_option maxHeartbeats 8000000 in
set_option maxRecDepth 100000 in
theorem majordomoref06_Same.calls (k : Nat) (a0_0 : ByteArray) (a0_1 : ByteArray) (A0_2 : Option Addr) (c0_2 : Nat) (l0_2 : List (S31)) (a1_0 : ByteArray) (a1_1 : ByteArray) (A1_2 : Option Addr) (c1_2 : Nat) (l1_2 : List (S31)) (r : Bool) (w : World) (hr0_2 : Kd.C k31 w A0_2 l0_2.length l0_2) (hc0_2 : l0_2.length ≤ c0_2) (hr1_2 : Kd.C k31 w A1_2 l1_2.length l1_2) (hc1_2 : l1_2.length ≤ c1_2) (h : majordomoref06_Same.f k a0_0 a0_1 l0_2 a1_0 a1_1 l1_2 = some r) :
 Calls Tryz.prog 13 #[.agg #[.string a0_0, .string a0_1, .slice A0_2 l0_2.length c0_2], .agg #[.string a1_0, .string a1_1, .slice A1_2 l1_2.length c1_2]] w fun e w' => e = .returned (.bool r) ∧ Below w.heap.size w w' := by
 have hu24 := Tryz.underlying24
 have hu31 := Tryz.underlying31
 have HR0_2 := As.mk hr0_2
 have HC0_2 := As.mk hc0_2
 clear hr0_2 hc0_2
 have HR1_2 := As.mk hr1_2
 have HC1_2 := As.mk hc1_2
 clear hr1_2 hc1_2
 have HB := As.mk (Below.refl w.heap.size w)
 have H : (if a0_0.toList = a1_0.toList then (if a0_1.toList = a1_1.toList then (majordomoref06_Same.j0 k ((l0_2.length : Int) != (l1_2.length : Int)) a0_0 a0_1 l0_2 a1_0 a1_1 l1_2) else (majordomoref06_Same.j0 k true a0_0 a0_1 l0_2 a1_0 a1_1 l1_2)) else (majordomoref06_Same.j0 k true a0_0 a0_1 l0_2 a1_0 a1_1 l1_2)) = some r := h
 clear h
 have HC3 := As.mk H
 clear H
 go_enter Tryz.func13, Tryz.ntmps13
 go_upto_region 1 with (first | ((with_reducible refine gate_dst (N := 2) rfl ?_); (try (refine gate_guard (by rfl) ?_; dsimp only)); refine box_event ?hg (N := 2) ?hd (cs := #[.string a0_0, .string a0_1, .slice A0_2 l0_2.length c0_2]) (t := 24) ?hr ?_; (case hd => rfl); (case hg => rfl); (case hr => first | (go_simp; done) | (go_simp; rfl)); intro gb391 hg w4 hbox hb; have n0_ := As.mk (bT (by repeat (first | (with_reducible first | exact HB.out | apply bA | apply bN | apply bD) | exact HB.out)) hb); have n1_ := As.mk (hbox); have n2_ := As.mk ((by rw [hg]; exact (bZ (by repeat (first | (with_reducible first | exact HB.out | apply bA | apply bN | apply bD) | exact HB.out))) : w.heap.size ≤ gb391)); have n3_ := As.mk ((by rw [hg]; exact (bZ (by repeat (first | (with_reducible first | exact HB.out | apply bA | apply bN | apply bD) | exact HB.out))) : w.heap.size ≤ gb391)); clear HB; have HB := n0_; have BK391 := n1_; have GW391 := n2_; have GE391 := n3_; clear n0_ n1_ n2_ n3_; clear hb hbox hg) | ((with_reducible refine gate_dst (N := 3) rfl ?_); (try (refine gate_guard (by rfl) ?_; dsimp only)); refine box_event ?hg (N := 3) ?hd (cs := #[.string a1_0, .string a1_1, .slice A1_2 l1_2.length c1_2]) (t := 24) ?hr ?_; (case hd => rfl); (case hg => rfl); (case hr => first | (go_simp; done) | (go_simp; rfl)); intro gb392 hg w5 hbox hb; have n0_ := As.mk (kB (g := gb391) (o := .cells #[.string a0_0, .string a0_1, .slice A0_2 l0_2.length c0_2] 24 (0, 0)) (by (with_reducible repeat (first | refine kN ?_ _ | refine kD ?_ | refine kA ?_ _)); exact BK391.out) hb); have n1_ := As.mk (bT (by repeat (first | (with_reducible first | exact HB.out | apply bA | apply bN | apply bD | refine bS ?_ GE391.out) | exact HB.out)) hb); have n2_ := As.mk (hbox); have n3_ := As.mk ((by rw [hg]; exact (bZ (by repeat (first | (with_reducible first | exact HB.out | apply bA | apply bN | apply bD | refine bS ?_ GE391.out) | exact HB.out))) : w.heap.size ≤ gb392)); have n4_ := As.mk ((by rw [hg]; exact (bZ (by repeat (first | (with_reducible first | exact HB.out | apply bA | apply bN | apply bD | refine bS ?_ GE391.out) | exact HB.out))) : w.heap.size ≤ gb392)); have n5_ := As.mk ((by rw [hg]; exact Nat.ne_of_lt (blk_lt (g := gb391) (o := .cells #[.string a0_0, .string a0_1, .slice A0_2 l0_2.length c0_2] 24 (0, 0)) (by (with_reducible repeat (first | refine kN ?_ _ | refine kD ?_ | refine kA ?_ _)); exact BK391.out)) : gb391 ≠ gb392)); have n6_ := As.mk ((by rw [hg]; exact Nat.ne_of_gt (blk_lt (g := gb391) (o := .cells #[.string a0_0, .string a0_1, .slice A0_2 l0_2.length c0_2] 24 (0, 0)) (by (with_reducible repeat (first | refine kN ?_ _ | refine kD ?_ | refine kA ?_ _)); exact BK391.out)) : gb392 ≠ gb391)); clear BK391; clear HB; have BK391 := n0_; have HB := n1_; have BK392 := n2_; have GW392 := n3_; have GE392 := n4_; have NB391_392 := n5_; have NB392_391 := n6_; clear n0_ n1_ n2_ n3_ n4_ n5_ n6_; clear hb hbox hg))
 repeat (go_quiet (first | ((with_reducible refine gate_dst (N := 2) rfl ?_); (try (refine gate_guard (by rfl) ?_; dsimp only)); refine box_event ?hg (N := 2) ?hd (cs := #[.string a0_0, .string a0_1, .slice A0_2 l0_2.length c0_2]) (t := 24) ?hr ?_; (case hd => rfl); (case hg => rfl); (case hr => first | (go_simp; done) | (go_simp; rfl)); intro gb391 hg w4 hbox hb; have n0_ := As.mk (bT (by repeat (first | (with_reducible first | exact HB.out | apply bA | apply bN | apply bD) | exact HB.out)) hb); have n1_ := As.mk (hbox); have n2_ := As.mk ((by rw [hg]; exact (bZ (by repeat (first | (with_reducible first | exact HB.out | apply bA | apply bN | apply bD) | exact HB.out))) : w.heap.size ≤ gb391)); have n3_ := As.mk ((by rw [hg]; exact (bZ (by repeat (first | (with_reducible first | exact HB.out | apply bA | apply bN | apply bD) | exact HB.out))) : w.heap.size ≤ gb391)); clear HB; have HB := n0_; have BK391 := n1_; have GW391 := n2_; have GE391 := n3_; clear n0_ n1_ n2_ n3_; clear hb hbox hg) | ((with_reducible refine gate_dst (N := 3) rfl ?_); (try (refine gate_guard (by rfl) ?_; dsimp only)); refine box_event ?hg (N := 3) ?hd (cs := #[.string a1_0, .string a1_1, .slice A1_2 l1_2.length c1_2]) (t := 24) ?hr ?_; (case hd => rfl); (case hg => rfl); (case hr => first | (go_simp; done) | (go_simp; rfl)); intro gb392 hg w5 hbox hb; have n0_ := As.mk (kB (g := gb391) (o := .cells #[.string a0_0, .string a0_1, .slice A0_2 l0_2.length c0_2] 24 (0, 0)) (by (with_reducible repeat (first | refine kN ?_ _ | refine kD ?_ | refine kA ?_ _)); exact BK391.out) hb); have n1_ := As.mk (bT (by repeat (first | (with_reducible first | exact HB.out | apply bA | apply bN | apply bD | refine bS ?_ GE391.out) | exact HB.out)) hb); have n2_ := As.mk (hbox); have n3_ := As.mk ((by rw [hg]; exact (bZ (by repeat (first | (with_reducible first | exact HB.out | apply bA | apply bN | apply bD | refine bS ?_ GE391.out) | exact HB.out))) : w.heap.size ≤ gb392)); have n4_ := As.mk ((by rw [hg]; exact (bZ (by repeat (first | (with_reducible first | exact HB.out | apply bA | apply bN | apply bD | refine bS ?_ GE391.out) | exact HB.out))) : w.heap.size ≤ gb392)); have n5_ := As.mk ((by rw [hg]; exact Nat.ne_of_lt (blk_lt (g := gb391) (o := .cells #[.string a0_0, .string a0_1, .slice A0_2 l0_2.length c0_2] 24 (0, 0)) (by (with_reducible repeat (first | refine kN ?_ _ | refine kD ?_ | refine kA ?_ _)); exact BK391.out)) : gb391 ≠ gb392)); have n6_ := As.mk ((by rw [hg]; exact Nat.ne_of_gt (blk_lt (g := gb391) (o := .cells #[.string a0_0, .string a0_1, .slice A0_2 l0_2.length c0_2] 24 (0, 0)) (by (with_reducible repeat (first | refine kN ?_ _ | refine kD ?_ | refine kA ?_ _)); exact BK391.out)) : gb392 ≠ gb391)); clear BK391; clear HB; have BK391 := n0_; have HB := n1_; have BK392 := n2_; have GW392 := n3_; have GE392 := n4_; have NB391_392 := n5_; have NB392_391 := n6_; clear n0_ n1_ n2_ n3_ n4_ n5_ n6_; clear hb hbox hg)); go_upto_region 1 with (first | ((with_reducible refine gate_dst (N := 2) rfl ?_); (try (refine gate_guard (by rfl) ?_; dsimp only)); refine box_event ?hg (N := 2) ?hd (cs := #[.string a0_0, .string a0_1, .slice A0_2 l0_2.length c0_2]) (t := 24) ?hr ?_; (case hd => rfl); (case hg => rfl); (case hr => first | (go_simp; done) | (go_simp; rfl)); intro gb391 hg w4 hbox hb; have n0_ := As.mk (bT (by repeat (first | (with_reducible first | exact HB.out | apply bA | apply bN | apply bD) | exact HB.out)) hb); have n1_ := As.mk (hbox); have n2_ := As.mk ((by rw [hg]; exact (bZ (by repeat (first | (with_reducible first | exact HB.out | apply bA | apply bN | apply bD) | exact HB.out))) : w.heap.size ≤ gb391)); have n3_ := As.mk ((by rw [hg]; exact (bZ (by repeat (first | (with_reducible first | exact HB.out | apply bA | apply bN | apply bD) | exact HB.out))) : w.heap.size ≤ gb391)); clear HB; have HB := n0_; have BK391 := n1_; have GW391 := n2_; have GE391 := n3_; clear n0_ n1_ n2_ n3_; clear hb hbox hg) | ((with_reducible refine gate_dst (N := 3) rfl ?_); (try (refine gate_guard (by rfl) ?_; dsimp only)); refine box_event ?hg (N := 3) ?hd (cs := #[.string a1_0, .string a1_1, .slice A1_2 l1_2.length c1_2]) (t := 24) ?hr ?_; (case hd => rfl); (case hg => rfl); (case hr => first | (go_simp; done) | (go_simp; rfl)); intro gb392 hg w5 hbox hb; have n0_ := As.mk (kB (g := gb391) (o := .cells #[.string a0_0, .string a0_1, .slice A0_2 l0_2.length c0_2] 24 (0, 0)) (by (with_reducible repeat (first | refine kN ?_ _ | refine kD ?_ | refine kA ?_ _)); exact BK391.out) hb); have n1_ := As.mk (bT (by repeat (first | (with_reducible first | exact HB.out | apply bA | apply bN | apply bD | refine bS ?_ GE391.out) | exact HB.out)) hb); have n2_ := As.mk (hbox); have n3_ := As.mk ((by rw [hg]; exact (bZ (by repeat (first | (with_reducible first | exact HB.out | apply bA | apply bN | apply bD | refine bS ?_ GE391.out) | exact HB.out))) : w.heap.size ≤ gb392)); have n4_ := As.mk ((by rw [hg]; exact (bZ (by repeat (first | (with_reducible first | exact HB.out | apply bA | apply bN | apply bD | refine bS ?_ GE391.out) | exact HB.out))) : w.heap.size ≤ gb392)); have n5_ := As.mk ((by rw [hg]; exact Nat.ne_of_lt (blk_lt (g := gb391) (o := .cells #[.string a0_0, .string a0_1, .slice A0_2 l0_2.length c0_2] 24 (0, 0)) (by (with_reducible repeat (first | refine kN ?_ _ | refine kD ?_ | refine kA ?_ _)); exact BK391.out)) : gb391 ≠ gb392)); have n6_ := As.mk ((by rw [hg]; exact Nat.ne_of_gt (blk_lt (g := gb391) (o := .cells #[.string a0_0, .string a0_1, .slice A0_2 l0_2.length c0_2] 24 (0, 0)) (by (with_reducible repeat (first | refine kN ?_ _ | refine kD ?_ | refine kA ?_ _)); exact BK391.out)) : gb392 ≠ gb391)); clear BK391; clear HB; have BK391 := n0_; have HB := n1_; have BK392 := n2_; have GW392 := n3_; have GE392 := n4_; have NB391_392 := n5_; have NB392_391 := n6_; clear n0_ n1_ n2_ n3_ n4_ n5_ n6_; clear hb hbox hg)))
 (try simp only [Act.put, zA, zZ, zS])
 go_cut [26] (fun v26 wc => ∃ (kq : Nat) (x26_2 : Bool), v26 = .bool x26_2 ∧ As (majordomoref06_Same.j0 kq x26_2 a0_0 a0_1 l0_2 a1_0 a1_1 l1_2 = some r) ∧ As (kq ≤ k) ∧ As (wc.heap[gb391]? = some (.cells #[.string a0_0, .string a0_1, (.slice A0_2 l0_2.length c0_2)] 24 (0, 0))) ∧ As (wc.heap[gb392]? = some (.cells #[.string a1_0, .string a1_1, (.slice A1_2 l1_2.length c1_2)] 24 (0, 0))) ∧ As (Below w.heap.size w wc))
 case first =>
  have H := HC3.out
  clear HC3
  by_cases c6 : a0_0.toList = a1_0.toList
  rotate_left
  · rw [if_neg c6] at H
    have c6b0 : (a0_0.toList == a1_0.toList) = false := beq_eq_false_iff_ne.mpr c6
    have c6b1 : (a0_0.toList != a1_0.toList) = true := bne_iff_ne.mpr c6
    (first | rw [c6b0] | (simp only [i64_w, i32_w]; rw [c6b0]) | skip)
    have H' := As.mk H
    clear H
    have hnb14 := NB391_392.out
    have hnc14 := NB392_391.out
    have hcz15_0 : w5.cell? ⟨gb391, 0, none⟩ = some (.string a0_0) := (kC BK391.out 0).trans rfl
    have hcz15_1 : w5.cell? ⟨gb391, 1, none⟩ = some (.string a0_1) := (kC BK391.out 1).trans rfl
    have hcz15_2 : w5.cell? ⟨gb391, 2, none⟩ = some (.slice A0_2 l0_2.length c0_2) := (kC BK391.out 2).trans rfl
    have hfz15_0 := kF BK391.out 0
    have hfz15_1 := kF BK391.out 1
    have hfz15_2 := kF BK391.out 2
    have hcz16_0 : w5.cell? ⟨gb392, 0, none⟩ = some (.string a1_0) := (kC BK392.out 0).trans rfl
    have hcz16_1 : w5.cell? ⟨gb392, 1, none⟩ = some (.string a1_1) := (kC BK392.out 1).trans rfl
    have hcz16_2 : w5.cell? ⟨gb392, 2, none⟩ = some (.slice A1_2 l1_2.length c1_2) := (kC BK392.out 2).trans rfl
    have hfz16_0 := kF BK392.out 0
    have hfz16_1 := kF BK392.out 1
    have hfz16_2 := kF BK392.out 2
    go_wp2
    repeat (go_quiet (fail); try go_wp2)
    go_meet
    case rel => exact ⟨_, (true), (by first | rfl | (simp; done) | (simp [*]; done)), H', ⟨by first | omega | exact Nat.le_refl _⟩, ⟨by (with_reducible repeat (first | refine kN ?_ _ | refine kD ?_ | refine kA ?_ _)); exact BK391.out⟩, ⟨by (with_reducible repeat (first | refine kN ?_ _ | refine kD ?_ | refine kA ?_ _)); exact BK392.out⟩, ⟨by repeat (first | (with_reducible first | exact HB.out | apply bA | apply bN | apply bD | refine bS ?_ GE391.out | refine bS ?_ GE392.out) | exact HB.out)⟩⟩
  rw [if_pos c6] at H
  have c6b0 : (a0_0.toList == a1_0.toList) = true := beq_iff_eq.mpr c6
  have c6b1 : (a0_0.toList != a1_0.toList) = false := bne_eq_false_iff_eq.mpr c6
  clear c6
  (first | rw [c6b0] | (simp only [i64_w, i32_w]; rw [c6b0]) | skip)
  by_cases c7 : a0_1.toList = a1_1.toList
  rotate_left
  · rw [if_neg c7] at H
    have c7b0 : (a0_1.toList == a1_1.toList) = false := beq_eq_false_iff_ne.mpr c7
    have c7b1 : (a0_1.toList != a1_1.toList) = true := bne_iff_ne.mpr c7
    have H' := As.mk H
    clear H
    have hnb11 := NB391_392.out
    have hnc11 := NB392_391.out
    have hcz12_0 : w5.cell? ⟨gb391, 0, none⟩ = some (.string a0_0) := (kC BK391.out 0).trans rfl
    have hcz12_1 : w5.cell? ⟨gb391, 1, none⟩ = some (.string a0_1) := (kC BK391.out 1).trans rfl
    have hcz12_2 : w5.cell? ⟨gb391, 2, none⟩ = some (.slice A0_2 l0_2.length c0_2) := (kC BK391.out 2).trans rfl
    have hfz12_0 := kF BK391.out 0
    have hfz12_1 := kF BK391.out 1
    have hfz12_2 := kF BK391.out 2
    have hcz13_0 : w5.cell? ⟨gb392, 0, none⟩ = some (.string a1_0) := (kC BK392.out 0).trans rfl
    have hcz13_1 : w5.cell? ⟨gb392, 1, none⟩ = some (.string a1_1) := (kC BK392.out 1).trans rfl
    have hcz13_2 : w5.cell? ⟨gb392, 2, none⟩ = some (.slice A1_2 l1_2.length c1_2) := (kC BK392.out 2).trans rfl
    have hfz13_0 := kF BK392.out 0
    have hfz13_1 := kF BK392.out 1
    have hfz13_2 := kF BK392.out 2
    go_wp2
    repeat (go_quiet (fail); try go_wp2)
    go_meet
    case rel => exact ⟨_, (true), (by first | rfl | (simp; done) | (simp [*]; done)), H', ⟨by first | omega | exact Nat.le_refl _⟩, ⟨by (with_reducible repeat (first | refine kN ?_ _ | refine kD ?_ | refine kA ?_ _)); exact BK391.out⟩, ⟨by (with_reducible repeat (first | refine kN ?_ _ | refine kD ?_ | refine kA ?_ _)); exact BK392.out⟩, ⟨by repeat (first | (with_reducible first | exact HB.out | apply bA | apply bN | apply bD | refine bS ?_ GE391.out | refine bS ?_ GE392.out) | exact HB.out)⟩⟩
  rw [if_pos c7] at H
  have c7b0 : (a0_1.toList == a1_1.toList) = true := beq_iff_eq.mpr c7
  have c7b1 : (a0_1.toList != a1_1.toList) = false := bne_eq_false_iff_eq.mpr c7
  clear c7
  have H' := As.mk H
  clear H
  have hnb8 := NB391_392.out
  have hnc8 := NB392_391.out
  have hcz9_0 : w5.cell? ⟨gb391, 0, none⟩ = some (.string a0_0) := (kC BK391.out 0).trans rfl
  have hcz9_1 : w5.cell? ⟨gb391, 1, none⟩ = some (.string a0_1) := (kC BK391.out 1).trans rfl
  have hcz9_2 : w5.cell? ⟨gb391, 2, none⟩ = some (.slice A0_2 l0_2.length c0_2) := (kC BK391.out 2).trans rfl
  have hfz9_0 := kF BK391.out 0
  have hfz9_1 := kF BK391.out 1
  have hfz9_2 := kF BK391.out 2
  have hcz10_0 : w5.cell? ⟨gb392, 0, none⟩ = some (.string a1_0) := (kC BK392.out 0).trans rfl
  have hcz10_1 : w5.cell? ⟨gb392, 1, none⟩ = some (.string a1_1) := (kC BK392.out 1).trans rfl
  have hcz10_2 : w5.cell? ⟨gb392, 2, none⟩ = some (.slice A1_2 l1_2.length c1_2) := (kC BK392.out 2).trans rfl
  have hfz10_0 := kF BK392.out 0
  have hfz10_1 := kF BK392.out 1
  have hfz10_2 := kF BK392.out 2
  go_wp2
  repeat (go_quiet (fail); try go_wp2)
  go_meet
  case rel => exact ⟨_, (((l0_2.length : Int) != (l1_2.length : Int))), (by first | rfl | (simp; done) | (simp [*]; done)), H', ⟨by first | omega | exact Nat.le_refl _⟩, ⟨by (with_reducible repeat (first | refine kN ?_ _ | refine kD ?_ | refine kA ?_ _)); exact BK391.out⟩, ⟨by (with_reducible repeat (first | refine kN ?_ _ | refine kD ?_ | refine kA ?_ _)); exact BK392.out⟩, ⟨by repeat (first | (with_reducible first | exact HB.out | apply bA | apply bN | apply bD | refine bS ?_ GE391.out | refine bS ?_ GE392.out) | exact HB.out)⟩⟩
 case rest =>
  clear HC3
  try clear c1
  try clear p2
  try clear c6
  try clear c6b0
  try clear c6b1
  try clear c7
  try clear c7b0
  try clear c7b1
  try clear c8
  try clear c11
  try clear c13
  try clear c14
  try clear hcz10_0
  try clear hcz10_1
  try clear hcz10_2
  try clear hcz12_0
  try clear hcz12_1
  try clear hcz12_2
  try clear hcz13_0
  try clear hcz13_1
  try clear hcz13_2
  try clear hcz15_0
  try clear hcz15_1
  try clear hcz15_2
  try clear hcz16_0
  try clear hcz16_1
  try clear hcz16_2
  try clear hcz9_0
  try clear hcz9_1
  try clear hcz9_2
  try clear hfz10_0
  try clear hfz10_1
  try clear hfz10_2
  try clear hfz12_0
  try clear hfz12_1
  try clear hfz12_2
  try clear hfz13_0
  try clear hfz13_1
  try clear hfz13_2
  try clear hfz15_0
  try clear hfz15_1
  try clear hfz15_2
  try clear hfz16_0
  try clear hfz16_1
  try clear hfz16_2
  try clear hfz9_0
  try clear hfz9_1
  try clear hfz9_2
  obtain ⟨kq, x26_2, rfl, HA, HJ2, BK391, BK392, HB⟩ := hcut
  cases kq with
  | zero => exact absurd HA.out (by simp [majordomoref06_Same.j0])
  | succ kj2 =>
   have H := HA.out
   clear HA
   simp only [majordomoref06_Same.j0] at H
   by_cases c17 : x26_2 = true
   · subst c17
     have H1 : (some false) = some r := by rw [if_pos rfl] at H; exact H
     clear H
     have H := H1
     clear H1
     obtain rfl := Option.some.inj H
     go_wp2
     repeat (go_quiet (fail); try go_wp2)
     go_ret
     exact ⟨by first | rfl | (simp [errW_none, errW_some] <;> rfl) | (simp [*, errW_none, errW_some] <;> rfl), by repeat (first | (with_reducible first | exact HB.out | apply bA | apply bN | apply bD | refine bS ?_ GE391.out | refine bS ?_ GE392.out) | exact HB.out)⟩
   replace c17 := Bool.eq_false_iff.mpr c17
   subst c17
   have H1 : (majordomoref06_Same.l0 kj2 0 a0_0 a0_1 l0_2 a1_0 a1_1 l1_2) = some r := by rw [if_neg (show ¬ (false = true) by decide)] at H; exact H
   clear H
   have H := H1
   clear H1
   have H' := As.mk H
   clear H
   go_wp2
   repeat (go_quiet (fail); try go_wp2)
   go_loopg [5] kj2 (fun kq v5 w' => ∃ (x5_2 : Int), v5 = .int .i64 x5_2 ∧ As (majordomoref06_Same.l0 kq x5_2 a0_0 a0_1 l0_2 a1_0 a1_1 l1_2 = some r) ∧ As (kq ≤ kj2) ∧ As (w'.heap[gb391]? = some (.cells #[.string a0_0, .string a0_1, (.slice A0_2 l0_2.length c0_2)] 24 (0, 0))) ∧ As (w'.heap[gb392]? = some (.cells #[.string a1_0, .string a1_1, (.slice A1_2 l1_2.length c1_2)] 24 (0, 0))) ∧ As (Below w.heap.size w w'))
   case atStart => exact ⟨(0), (by first | rfl | (simp; done) | (simp [*]; done)), H', ⟨Nat.le_refl _⟩, ⟨by (with_reducible repeat (first | refine kN ?_ _ | refine kD ?_ | refine kA ?_ _)); exact BK391.out⟩, ⟨by (with_reducible repeat (first | refine kN ?_ _ | refine kD ?_ | refine kA ?_ _)); exact BK392.out⟩, ⟨by repeat (first | (with_reducible first | exact HB.out | apply bA | apply bN | apply bD | refine bS ?_ GE391.out | refine bS ?_ GE392.out) | exact HB.out)⟩⟩
   case round =>
    clear H'
    try clear c1
    try clear p2
    try clear c6
    try clear c6b0
    try clear c6b1
    try clear c7
    try clear c7b0
    try clear c7b1
    try clear c8
    try clear c11
    try clear c13
    try clear c14
    try clear c17
    try clear hcz10_0
    try clear hcz10_1
    try clear hcz10_2
    try clear hcz12_0
    try clear hcz12_1
    try clear hcz12_2
    try clear hcz13_0
    try clear hcz13_1
    try clear hcz13_2
    try clear hcz15_0
    try clear hcz15_1
    try clear hcz15_2
    try clear hcz16_0
    try clear hcz16_1
    try clear hcz16_2
    try clear hcz9_0
    try clear hcz9_1
    try clear hcz9_2
    try clear hfz10_0
    try clear hfz10_1
    try clear hfz10_2
    try clear hfz12_0
    try clear hfz12_1
    try clear hfz12_2
    try clear hfz13_0
    try clear hfz13_1
    try clear hfz13_2
    try clear hfz15_0
    try clear hfz15_1
    try clear hfz15_2
    try clear hfz16_0
    try clear hfz16_1
    try clear hfz16_2
    try clear hfz9_0
    try clear hfz9_1
    try clear hfz9_2
    try clear p2
    obtain ⟨x5_2, rfl, HA, HK2, BK391, BK392, HB⟩ := hrel
    cases gk with
    | zero => exact absurd HA.out (by simp [majordomoref06_Same.l0])
    | succ k2 =>
     have H := HA.out
     clear HA
     simp only [majordomoref06_Same.l0] at H
     by_cases c18 : x5_2 < (l0_2.length : Int)
     rotate_left
     · rw [if_neg c18] at H
       have c18b0 : decide (x5_2 < (l0_2.length : Int)) = false := decide_eq_false c18
       clear c18
       obtain rfl := Option.some.inj H
       have hnb28 := NB391_392.out
       have hnc28 := NB392_391.out
       have hcz29_0 : wr.cell? ⟨gb391, 0, none⟩ = some (.string a0_0) := (kC BK391.out 0).trans rfl
       have hcz29_1 : wr.cell? ⟨gb391, 1, none⟩ = some (.string a0_1) := (kC BK391.out 1).trans rfl
       have hcz29_2 : wr.cell? ⟨gb391, 2, none⟩ = some (.slice A0_2 l0_2.length c0_2) := (kC BK391.out 2).trans rfl
       have hfz29_0 := kF BK391.out 0
       have hfz29_1 := kF BK391.out 1
       have hfz29_2 := kF BK391.out 2
       go_wp2
       repeat (go_quiet (fail); try go_wp2)
       go_ret
       exact ⟨by first | rfl | (simp [errW_none, errW_some] <;> rfl) | (simp [*, errW_none, errW_some] <;> rfl), by repeat (first | (with_reducible first | exact HB.out | apply bA | apply bN | apply bD | refine bS ?_ GE391.out | refine bS ?_ GE392.out) | exact HB.out)⟩
     rw [if_pos c18] at H
     have c18b0 : decide (x5_2 < (l0_2.length : Int)) = true := decide_eq_true c18
     clear c18
     by_cases c19 : 0 ≤ x5_2
     rotate_left
     · rw [if_neg c19] at H
       exact absurd H (by simp)
     rw [if_pos c19] at H
     have c19b0 : decide (0 ≤ x5_2) = true := decide_eq_true c19
     clear c19
     by_cases c20 : x5_2 < (l1_2.length : Int)
     rotate_left
     · rw [if_neg c20] at H
       exact absurd H (by simp)
     rw [if_pos c20] at H
     have c20b0 : decide (x5_2 < (l1_2.length : Int)) = true := decide_eq_true c20
     clear c20
     by_cases c21 : (!((((rd_T31 l0_2 x5_2).f0).toList) == (((rd_T31 l1_2 x5_2).f0).toList)) || (!((((rd_T31 l0_2 x5_2).f1).toList) == (((rd_T31 l1_2 x5_2).f1).toList)))) = true
     · rw [if_pos c21] at H
       have c21b0 : (!((((rd_T31 l0_2 x5_2).f0).toList) == (((rd_T31 l1_2 x5_2).f0).toList)) || (!((((rd_T31 l0_2 x5_2).f1).toList) == (((rd_T31 l1_2 x5_2).f1).toList)))) = true := c21
       clear c21
       obtain rfl := Option.some.inj H
       have hnb22 := NB391_392.out
       have hnc22 := NB392_391.out
       have hcz23_0 : wr.cell? ⟨gb391, 0, none⟩ = some (.string a0_0) := (kC BK391.out 0).trans rfl
       have hcz23_1 : wr.cell? ⟨gb391, 1, none⟩ = some (.string a0_1) := (kC BK391.out 1).trans rfl
       have hcz23_2 : wr.cell? ⟨gb391, 2, none⟩ = some (.slice A0_2 l0_2.length c0_2) := (kC BK391.out 2).trans rfl
       have hfz23_0 := kF BK391.out 0
       have hfz23_1 := kF BK391.out 1
       have hfz23_2 := kF BK391.out 2
       have p393 : 0 ≤ (x5_2 : Int) := of_decide_eq_true (by first | (with_reducible assumption) | assumption)
       have q393 : x5_2 < (l0_2.length : Int) := of_decide_eq_true (by first | (with_reducible assumption) | assumption)
       obtain ⟨ad393, e393, hx393_0, hx393_1⟩ := at_T31 HR0_2.out x5_2 p393 q393
       cases e393
       replace hx393_0 := (HB.out.cell (World.block_lt_of_cell? w _ hx393_0)).trans hx393_0
       replace hx393_1 := (HB.out.cell (World.block_lt_of_cell? w _ hx393_1)).trans hx393_1
       replace p393 := eq_true p393
       replace q393 := eq_true q393
       have hcz24_0 : wr.cell? ⟨gb392, 0, none⟩ = some (.string a1_0) := (kC BK392.out 0).trans rfl
       have hcz24_1 : wr.cell? ⟨gb392, 1, none⟩ = some (.string a1_1) := (kC BK392.out 1).trans rfl
       have hcz24_2 : wr.cell? ⟨gb392, 2, none⟩ = some (.slice A1_2 l1_2.length c1_2) := (kC BK392.out 2).trans rfl
       have hfz24_0 := kF BK392.out 0
       have hfz24_1 := kF BK392.out 1
       have hfz24_2 := kF BK392.out 2
       have p394 : 0 ≤ (x5_2 : Int) := of_decide_eq_true (by first | (with_reducible assumption) | assumption)
       have q394 : x5_2 < (l1_2.length : Int) := of_decide_eq_true (by first | (with_reducible assumption) | assumption)
       obtain ⟨ad394, e394, hx394_0, hx394_1⟩ := at_T31 HR1_2.out x5_2 p394 q394
       cases e394
       replace hx394_0 := (HB.out.cell (World.block_lt_of_cell? w _ hx394_0)).trans hx394_0
       replace hx394_1 := (HB.out.cell (World.block_lt_of_cell? w _ hx394_1)).trans hx394_1
       replace p394 := eq_true p394
       replace q394 := eq_true q394
       go_wp2
       repeat (go_quiet (fail); try go_wp2)
       go_ret
       exact ⟨by first | rfl | (simp [errW_none, errW_some] <;> rfl) | (simp [*, errW_none, errW_some] <;> rfl), by repeat (first | (with_reducible first | exact HB.out | apply bA | apply bN | apply bD | refine bS ?_ GE391.out | refine bS ?_ GE392.out) | exact HB.out)⟩
     rw [if_neg c21] at H
     have c21b0 : (!((((rd_T31 l0_2 x5_2).f0).toList) == (((rd_T31 l1_2 x5_2).f0).toList)) || (!((((rd_T31 l0_2 x5_2).f1).toList) == (((rd_T31 l1_2 x5_2).f1).toList)))) = false := by simpa using c21
     clear c21
     have H' := As.mk H
     clear H
     have hnb25 := NB391_392.out
     have hnc25 := NB392_391.out
     have hcz26_0 : wr.cell? ⟨gb391, 0, none⟩ = some (.string a0_0) := (kC BK391.out 0).trans rfl
     have hcz26_1 : wr.cell? ⟨gb391, 1, none⟩ = some (.string a0_1) := (kC BK391.out 1).trans rfl
     have hcz26_2 : wr.cell? ⟨gb391, 2, none⟩ = some (.slice A0_2 l0_2.length c0_2) := (kC BK391.out 2).trans rfl
     have hfz26_0 := kF BK391.out 0
     have hfz26_1 := kF BK391.out 1
     have hfz26_2 := kF BK391.out 2
     have p393 : 0 ≤ (x5_2 : Int) := of_decide_eq_true (by first | (with_reducible assumption) | assumption)
     have q393 : x5_2 < (l0_2.length : Int) := of_decide_eq_true (by first | (with_reducible assumption) | assumption)
     obtain ⟨ad393, e393, hx393_0, hx393_1⟩ := at_T31 HR0_2.out x5_2 p393 q393
     cases e393
     replace hx393_0 := (HB.out.cell (World.block_lt_of_cell? w _ hx393_0)).trans hx393_0
     replace hx393_1 := (HB.out.cell (World.block_lt_of_cell? w _ hx393_1)).trans hx393_1
     replace p393 := eq_true p393
     replace q393 := eq_true q393
     have hcz27_0 : wr.cell? ⟨gb392, 0, none⟩ = some (.string a1_0) := (kC BK392.out 0).trans rfl
     have hcz27_1 : wr.cell? ⟨gb392, 1, none⟩ = some (.string a1_1) := (kC BK392.out 1).trans rfl
     have hcz27_2 : wr.cell? ⟨gb392, 2, none⟩ = some (.slice A1_2 l1_2.length c1_2) := (kC BK392.out 2).trans rfl
     have hfz27_0 := kF BK392.out 0
     have hfz27_1 := kF BK392.out 1
     have hfz27_2 := kF BK392.out 2
     have p394 : 0 ≤ (x5_2 : Int) := of_decide_eq_true (by first | (with_reducible assumption) | assumption)
     have q394 : x5_2 < (l1_2.length : Int) := of_decide_eq_true (by first | (with_reducible assumption) | assumption)
     obtain ⟨ad394, e394, hx394_0, hx394_1⟩ := at_T31 HR1_2.out x5_2 p394 q394
     cases e394
     replace hx394_0 := (HB.out.cell (World.block_lt_of_cell? w _ hx394_0)).trans hx394_0
     replace hx394_1 := (HB.out.cell (World.block_lt_of_cell? w _ hx394_1)).trans hx394_1
     replace p394 := eq_true p394
     replace q394 := eq_true q394
     go_wp2
     repeat (go_quiet (fail); try go_wp2)
     go_roundg k2
     case measure => have := HJ2.out; have := HK2.out; omega
     case rel => exact ⟨(wrap64 (x5_2 + 1)), (by first | rfl | (simp; done) | (simp [*]; done)), H', ⟨by have := HJ2.out; have := HK2.out; omega⟩, ⟨by (with_reducible repeat (first | refine kN ?_ _ | refine kD ?_ | refine kA ?_ _)); exact BK391.out⟩, ⟨by (with_reducible repeat (first | refine kN ?_ _ | refine kD ?_ | refine kA ?_ _)); exact BK392.out⟩, ⟨by repeat (first | (with_reducible first | exact HB.out | apply bA | apply bN | apply bD | refine bS ?_ GE391.out | refine bS ?_ GE392.out) | exact HB.out)⟩⟩
end Go.Proofs.YtkgafkoopefghaaGreatDoor.PA
end
