/- A part of this law; its conditions stand in the last text. -/
import Derived.Test.YtkgafkoopefghaaGreatDoorCu6
import Derived.Test.YtkgafkoopefghaaGreatDoorCu9
import Derived.Test.YtkgafkoopefghaaGreatDoorCu8
section
namespace Go.Proofs.YtkgafkoopefghaaGreatDoor.PA
open Go.RowKit Go.Proofs.YtkgafkoopefghaaGreatDoorW.PrintWords Go.Proofs.YtkgafkoopefghaaGreatDoorW.PrintLast Go.Proofs.YtkgafkoopefghaaGreatDoorW.PrintMore
open Go.Proofs.YtkgafkoopefghaaGreatDoor.Hk
attribute [local go_sem high] Go.Proofs.YtkgafkoopefghaaGreatDoor.Hk.binOp_leq_not
attribute [local go_sem] max2_int min2_int max_two min_two max_three min_three max_four min_four
set_option linter.unusedVariables false
set_option linter.unusedSimpArgs false
attribute [local go_sem high] eqA31
mutual
def majordomoref06_Same.j0 : Nat → Bool → ByteArray → ByteArray → List (S31) → ByteArray → ByteArray → List (S31) → Option (Bool)
 | 0, _, _, _, _, _, _, _ => none
 | k + 1, x26, x353000, x353001, x353002, x354000, x354001, x354002 => if x26 = true then (some false) else (majordomoref06_Same.l0 k 0 x353000 x353001 x353002 x354000 x354001 x354002)
def majordomoref06_Same.l0 : Nat → Int → ByteArray → ByteArray → List (S31) → ByteArray → ByteArray → List (S31) → Option (Bool)
 | 0, _, _, _, _, _, _, _ => none
 | k + 1, x5, x353000, x353001, x353002, x354000, x354001, x354002 => if x5 < (x353002.length : Int) then (if 0 ≤ x5 then (if x5 < (x354002.length : Int) then (if (!((((rd_T31 x353002 x5).f0).toList) == (((rd_T31 x354002 x5).f0).toList)) || (!((((rd_T31 x353002 x5).f1).toList) == (((rd_T31 x354002 x5).f1).toList)))) = true then (some false) else (majordomoref06_Same.l0 k (wrap64 (x5 + 1)) x353000 x353001 x353002 x354000 x354001 x354002)) else (none)) else (none)) else (some true)
end
def majordomoref06_Same.f (k : Nat) (a0_0 : ByteArray) (a0_1 : ByteArray) (l0_2 : List (S31)) (a1_0 : ByteArray) (a1_1 : ByteArray) (l1_2 : List (S31)) : Option (Bool) := if a0_0.toList = a1_0.toList then (if a0_1.toList = a1_1.toList then (majordomoref06_Same.j0 k ((l0_2.length : Int) != (l1_2.length : Int)) a0_0 a0_1 l0_2 a1_0 a1_1 l1_2) else (majordomoref06_Same.j0 k true a0_0 a0_1 l0_2 a1_0 a1_1 l1_2)) else (majordomoref06_Same.j0 k true a0_0 a0_1 l0_2 a1_0 a1_1 l1_2)
set_option maxHeartbeats 8000000 in
set_option maxRecDepth 100000 in
theorem majordomoref06_Same.calls (k : Nat) (a0_0 : ByteArray) (a0_1 : ByteArray) (A0_2 : Option Addr) (c0_2 : Nat) (l0_2 : List (S31)) (a1_0 : ByteArray) (a1_1 : ByteArray) (A1_2 : Option Addr) (c1_2 : Nat) (l1_2 : List (S31)) (r : Bool) (w : World) (hr0_2 : Kd.C k31 w A0_2 l0_2.length l0_2) (hc0_2 : l0_2.length ≤ c0_2) (hr1_2 : Kd.C k31 w A1_2 l1_2.length l1_2) (hc1_2 : l1_2.length ≤ c1_2) (h : majordomoref06_Same.f k a0_0 a0_1 l0_2 a1_0 a1_1 l1_2 = some r) :
 Calls Tryz.prog 13 #[.agg #[.string a0_0, .string a0_1, .slice A0_2 l0_2.length c0_2], .agg #[.string a1_0, .string a1_1, .slice A1_2 l1_2.length c1_2]] w fun e w' => e = .returned (.bool r) ∧ Below w.heap.size w w' := by
 have hu24 := Tryz.underlying24
 have hu31 := Tryz.underlying31
 have HR0_2 := As.mk hr0_2
 have HC0_2 := As.mk hc0_2
 clear hr0_2 hc0_2
 have HR1_2 := As.mk hr1_2
 have HC1_2 := As.mk hc1_2
 clear hr1_2 hc1_2
 have HB := As.mk (Below.refl w.heap.size w)
 have H : (if a0_0.toList = a1_0.toList then (if a0_1.toList = a1_1.toList then (majordomoref06_Same.j0 k ((l0_2.length : Int) != (l1_2.length : Int)) a0_0 a0_1 l0_2 a1_0 a1_1 l1_2) else (majordomoref06_Same.j0 k true a0_0 a0_1 l0_2 a1_0 a1_1 l1_2)) else (majordomoref06_Same.j0 k true a0_0 a0_1 l0_2 a1_0 a1_1 l1_2)) = some r := h
 clear h
 have HC3 := As.mk H
 clear H
 go_enter Tryz.func13, Tryz.ntmps13
 go_upto_region 1 with (first | ((with_reducible refine gate_dst (N := 2) rfl ?_); (try (refine gate_guard (by rfl) ?_; dsimp only)); refine box_event ?hg (N := 2) ?hd (cs := #[.string a0_0, .string a0_1, .slice A0_2 l0_2.length c0_2]) (t := 24) ?hr ?_; (case hd => rfl); (case hg => rfl); (case hr => first | (go_simp; done) | (go_simp; rfl)); intro gb352 hg w4 hbox hb; have n0_ := As.mk (bT (by repeat (first | (with_reducible first | exact HB.out | apply bA | apply bN | apply bD) | exact HB.out)) hb); have n1_ := As.mk (hbox); have n2_ := As.mk ((by rw [hg]; exact (bZ (by repeat (first | (with_reducible first | exact HB.out | apply bA | apply bN | apply bD) | exact HB.out))) : w.heap.size ≤ gb352)); have n3_ := As.mk ((by rw [hg]; exact (bZ (by repeat (first | (with_reducible first | exact HB.out | apply bA | apply bN | apply bD) | exact HB.out))) : w.heap.size ≤ gb352)); clear HB; have HB := n0_; have BK352 := n1_; have GW352 := n2_; have GE352 := n3_; clear n0_ n1_ n2_ n3_; clear hb hbox hg) | ((with_reducible refine gate_dst (N := 3) rfl ?_); (try (refine gate_guard (by rfl) ?_; dsimp only)); refine box_event ?hg (N := 3) ?hd (cs := #[.string a1_0, .string a1_1, .slice A1_2 l1_2.length c1_2]) (t := 24) ?hr ?_; (case hd => rfl); (case hg => rfl); (case hr => first | (go_simp; done) | (go_simp; rfl)); intro gb353 hg w5 hbox hb; have n0_ := As.mk (kB (g := gb352) (o := .cells #[.string a0_0, .string a0_1, .slice A0_2 l0_2.length c0_2] 24 (0, 0)) (by (with_reducible repeat (first | refine kN ?_ _ | refine kD ?_ | refine kA ?_ _)); exact BK352.out) hb); have n1_ := As.mk (bT (by repeat (first | (with_reducible first | exact HB.out | apply bA | apply bN | apply bD | refine bS ?_ GE352.out) | exact HB.out)) hb); have n2_ := As.mk (hbox); have n3_ := As.mk ((by rw [hg]; exact (bZ (by repeat (first | (with_reducible first | exact HB.out | apply bA | apply bN | apply bD | refine bS ?_ GE352.out) | exact HB.out))) : w.heap.size ≤ gb353)); have n4_ := As.mk ((by rw [hg]; exact (bZ (by repeat (first | (with_reducible first | exact HB.out | apply bA | apply bN | apply bD | refine bS ?_ GE352.out) | exact HB.out))) : w.heap.size ≤ gb353)); have n5_ := As.mk ((by rw [hg]; exact Nat.ne_of_lt (blk_lt (g := gb352) (o := .cells #[.string a0_0, .string a0_1, .slice A0_2 l0_2.length c0_2] 24 (0, 0)) (by (with_reducible repeat (first | refine kN ?_ _ | refine kD ?_ | refine kA ?_ _)); exact BK352.out)) : gb352 ≠ gb353)); have n6_ := As.mk ((by rw [hg]; exact Nat.ne_of_gt (blk_lt (g := gb352) (o := .cells #[.string a0_0, .string a0_1, .slice A0_2 l0_2.length c0_2] 24 (0, 0)) (by (with_reducible repeat (first | refine kN ?_ _ | refine kD ?_ | refine kA ?_ _)); exact BK352.out)) : gb353 ≠ gb352)); clear BK352; clear HB; have BK352 := n0_; have HB := n1_; have BK353 := n2_; have GW353 := n3_; have GE353 := n4_; have NB352_353 := n5_; have NB353_352 := n6_; clear n0_ n1_ n2_ n3_ n4_ n5_ n6_; clear hb hbox hg))
 repeat (go_quiet (first | ((with_reducible refine gate_dst (N := 2) rfl ?_); (try (refine gate_guard (by rfl) ?_; dsimp only)); refine box_event ?hg (N := 2) ?hd (cs := #[.string a0_0, .string a0_1, .slice A0_2 l0_2.length c0_2]) (t := 24) ?hr ?_; (case hd => rfl); (case hg => rfl); (case hr => first | (go_simp; done) | (go_simp; rfl)); intro gb352 hg w4 hbox hb; have n0_ := As.mk (bT (by repeat (first | (with_reducible first | exact HB.out | apply bA | apply bN | apply bD) | exact HB.out)) hb); have n1_ := As.mk (hbox); have n2_ := As.mk ((by rw [hg]; exact (bZ (by repeat (first | (with_reducible first | exact HB.out | apply bA | apply bN | apply bD) | exact HB.out))) : w.heap.size ≤ gb352)); have n3_ := As.mk ((by rw [hg]; exact (bZ (by repeat (first | (with_reducible first | exact HB.out | apply bA | apply bN | apply bD) | exact HB.out))) : w.heap.size ≤ gb352)); clear HB; have HB := n0_; have BK352 := n1_; have GW352 := n2_; have GE352 := n3_; clear n0_ n1_ n2_ n3_; clear hb hbox hg) | ((with_reducible refine gate_dst (N := 3) rfl ?_); (try (refine gate_guard (by rfl) ?_; dsimp only)); refine box_event ?hg (N := 3) ?hd (cs := #[.string a1_0, .string a1_1, .slice A1_2 l1_2.length c1_2]) (t := 24) ?hr ?_; (case hd => rfl); (case hg => rfl); (case hr => first | (go_simp; done) | (go_simp; rfl)); intro gb353 hg w5 hbox hb; have n0_ := As.mk (kB (g := gb352) (o := .cells #[.string a0_0, .string a0_1, .slice A0_2 l0_2.length c0_2] 24 (0, 0)) (by (with_reducible repeat (first | refine kN ?_ _ | refine kD ?_ | refine kA ?_ _)); exact BK352.out) hb); have n1_ := As.mk (bT (by repeat (first | (with_reducible first | exact HB.out | apply bA | apply bN | apply bD | refine bS ?_ GE352.out) | exact HB.out)) hb); have n2_ := As.mk (hbox); have n3_ := As.mk ((by rw [hg]; exact (bZ (by repeat (first | (with_reducible first | exact HB.out | apply bA | apply bN | apply bD | refine bS ?_ GE352.out) | exact HB.out))) : w.heap.size ≤ gb353)); have n4_ := As.mk ((by rw [hg]; exact (bZ (by repeat (first | (with_reducible first | exact HB.out | apply bA | apply bN | apply bD | refine bS ?_ GE352.out) | exact HB.out))) : w.heap.size ≤ gb353)); have n5_ := As.mk ((by rw [hg]; exact Nat.ne_of_lt (blk_lt (g := gb352) (o := .cells #[.string a0_0, .string a0_1, .slice A0_2 l0_2.length c0_2] 24 (0, 0)) (by (with_reducible repeat (first | refine kN ?_ _ | refine kD ?_ | refine kA ?_ _)); exact BK352.out)) : gb352 ≠ gb353)); have n6_ := As.mk ((by rw [hg]; exact Nat.ne_of_gt (blk_lt (g := gb352) (o := .cells #[.string a0_0, .string a0_1, .slice A0_2 l0_2.length c0_2] 24 (0, 0)) (by (with_reducible repeat (first | refine kN ?_ _ | refine kD ?_ | refine kA ?_ _)); exact BK352.out)) : gb353 ≠ gb352)); clear BK352; clear HB; have BK352 := n0_; have HB := n1_; have BK353 := n2_; have GW353 := n3_; have GE353 := n4_; have NB352_353 := n5_; have NB353_352 := n6_; clear n0_ n1_ n2_ n3_ n4_ n5_ n6_; clear hb hbox hg)); go_upto_region 1 with (first | ((with_reducible refine gate_dst (N := 2) rfl ?_); (try (refine gate_guard (by rfl) ?_; dsimp only)); refine box_event ?hg (N := 2) ?hd (cs := #[.string a0_0, .string a0_1, .slice A0_2 l0_2.length c0_2]) (t := 24) ?hr ?_; (case hd => rfl); (case hg => rfl); (case hr => first | (go_simp; done) | (go_simp; rfl)); intro gb352 hg w4 hbox hb; have n0_ := As.mk (bT (by repeat (first | (with_reducible first | exact HB.out | apply bA | apply bN | apply bD) | exact HB.out)) hb); have n1_ := As.mk (hbox); have n2_ := As.mk ((by rw [hg]; exact (bZ (by repeat (first | (with_reducible first | exact HB.out | apply bA | apply bN | apply bD) | exact HB.out))) : w.heap.size ≤ gb352)); have n3_ := As.mk ((by rw [hg]; exact (bZ (by repeat (first | (with_reducible first | exact HB.out | apply bA | apply bN | apply bD) | exact HB.out))) : w.heap.size ≤ gb352)); clear HB; have HB := n0_; have BK352 := n1_; have GW352 := n2_; have GE352 := n3_; clear n0_ n1_ n2_ n3_; clear hb hbox hg) | ((with_reducible refine gate_dst (N := 3) rfl ?_); (try (refine gate_guard (by rfl) ?_; dsimp only)); refine box_event ?hg (N := 3) ?hd (cs := #[.string a1_0, .string a1_1, .slice A1_2 l1_2.length c1_2]) (t := 24) ?hr ?_; (case hd => rfl); (case hg => rfl); (case hr => first | (go_simp; done) | (go_simp; rfl)); intro gb353 hg w5 hbox hb; have n0_ := As.mk (kB (g := gb352) (o := .cells #[.string a0_0, .string a0_1, .slice A0_2 l0_2.length c0_2] 24 (0, 0)) (by (with_reducible repeat (first | refine kN ?_ _ | refine kD ?_ | refine kA ?_ _)); exact BK352.out) hb); have n1_ := As.mk (bT (by repeat (first | (with_reducible first | exact HB.out | apply bA | apply bN | apply bD | refine bS ?_ GE352.out) | exact HB.out)) hb); have n2_ := As.mk (hbox); have n3_ := As.mk ((by rw [hg]; exact (bZ (by repeat (first | (with_reducible first | exact HB.out | apply bA | apply bN | apply bD | refine bS ?_ GE352.out) | exact HB.out))) : w.heap.size ≤ gb353)); have n4_ := As.mk ((by rw [hg]; exact (bZ (by repeat (first | (with_reducible first | exact HB.out | apply bA | apply bN | apply bD | refine bS ?_ GE352.out) | exact HB.out))) : w.heap.size ≤ gb353)); have n5_ := As.mk ((by rw [hg]; exact Nat.ne_of_lt (blk_lt (g := gb352) (o := .cells #[.string a0_0, .string a0_1, .slice A0_2 l0_2.length c0_2] 24 (0, 0)) (by (with_reducible repeat (first | refine kN ?_ _ | refine kD ?_ | refine kA ?_ _)); exact BK352.out)) : gb352 ≠ gb353)); have n6_ := As.mk ((by rw [hg]; exact Nat.ne_of_gt (blk_lt (g := gb352) (o := .cells #[.string a0_0, .string a0_1, .slice A0_2 l0_2.length c0_2] 24 (0, 0)) (by (with_reducible repeat (first | refine kN ?_ _ | refine kD ?_ | refine kA ?_ _)); exact BK352.out)) : gb353 ≠ gb352)); clear BK352; clear HB; have BK352 := n0_; have HB := n1_; have BK353 := n2_; have GW353 := n3_; have GE353 := n4_; have NB352_353 := n5_; have NB353_352 := n6_; clear n0_ n1_ n2_ n3_ n4_ n5_ n6_; clear hb hbox hg)))
 (try simp only [Act.put, zA, zZ, zS])
 go_cut [26] (fun v26 wc => ∃ (kq : Nat) (x26_2 : Bool), v26 = .bool x26_2 ∧ As (majordomoref06_Same.j0 kq x26_2 a0_0 a0_1 l0_2 a1_0 a1_1 l1_2 = some r) ∧ As (kq ≤ k) ∧ As (wc.heap[gb352]? = some (.cells #[.string a0_0, .string a0_1, (.slice A0_2 l0_2.length c0_2)] 24 (0, 0))) ∧ As (wc.heap[gb353]? = some (.cells #[.string a1_0, .string a1_1, (.slice A1_2 l1_2.length c1_2)] 24 (0, 0))) ∧ As (Below w.heap.size w wc))
 case first =>
  have H := HC3.out
  clear HC3
  by_cases c6 : a0_0.toList = a1_0.toList
  rotate_left
  · rw [if_neg c6] at H
    have c6b0 : (a0_0.toList == a1_0.toList) = false := beq_eq_false_iff_ne.mpr c6
    have c6b1 : (a0_0.toList != a1_0.toList) = true := bne_iff_ne.mpr c6
    (first | rw [c6b0] | (simp only [i64_w, i32_w]; rw [c6b0]) | skip)
    have H' := As.mk H
    clear H
    have hnb14 := NB352_353.out
    have hnc14 := NB353_352.out
    have hcz15_0 : w5.cell? ⟨gb352, 0, none⟩ = some (.string a0_0) := (kC BK352.out 0).trans rfl
    have hcz15_1 : w5.cell? ⟨gb352, 1, none⟩ = some (.string a0_1) := (kC BK352.out 1).trans rfl
    have hcz15_2 : w5.cell? ⟨gb352, 2, none⟩ = some (.slice A0_2 l0_2.length c0_2) := (kC BK352.out 2).trans rfl
    have hfz15_0 := kF BK352.out 0
    have hfz15_1 := kF BK352.out 1
    have hfz15_2 := kF BK352.out 2
    have hcz16_0 : w5.cell? ⟨gb353, 0, none⟩ = some (.string a1_0) := (kC BK353.out 0).trans rfl
    have hcz16_1 : w5.cell? ⟨gb353, 1, none⟩ = some (.string a1_1) := (kC BK353.out 1).trans rfl
    have hcz16_2 : w5.cell? ⟨gb353, 2, none⟩ = some (.slice A1_2 l1_2.length c1_2) := (kC BK353.out 2).trans rfl
    have hfz16_0 := kF BK353.out 0
    have hfz16_1 := kF BK353.out 1
    have hfz16_2 := kF BK353.out 2
    go_wp2
    repeat (go_quiet (fail); try go_wp2)
    go_meet
    case rel => exact ⟨_, (true), (by first | rfl | (simp; done) | (simp [*]; done)), H', ⟨by first | omega | exact Nat.le_refl _⟩, ⟨by (with_reducible repeat (first | refine kN ?_ _ | refine kD ?_ | refine kA ?_ _)); exact BK352.out⟩, ⟨by (with_reducible repeat (first | refine kN ?_ _ | refine kD ?_ | refine kA ?_ _)); exact BK353.out⟩, ⟨by repeat (first | (with_reducible first | exact HB.out | apply bA | apply bN | apply bD | refine bS ?_ GE352.out | refine bS ?_ GE353.out) | exact HB.out)⟩⟩
  rw [if_pos c6] at H
  have c6b0 : (a0_0.toList == a1_0.toList) = true := beq_iff_eq.mpr c6
  have c6b1 : (a0_0.toList != a1_0.toList) = false := bne_eq_false_iff_eq.mpr c6
  clear c6
  (first | rw [c6b0] | (simp only [i64_w, i32_w]; rw [c6b0]) | skip)
  by_cases c7 : a0_1.toList = a1_1.toList
  rotate_left
  · rw [if_neg c7] at H
    have c7b0 : (a0_1.toList == a1_1.toList) = false := beq_eq_false_iff_ne.mpr c7
    have c7b1 : (a0_1.toList != a1_1.toList) = true := bne_iff_ne.mpr c7
    have H' := As.mk H
    clear H
    have hnb11 := NB352_353.out
    have hnc11 := NB353_352.out
    have hcz12_0 : w5.cell? ⟨gb352, 0, none⟩ = some (.string a0_0) := (kC BK352.out 0).trans rfl
    have hcz12_1 : w5.cell? ⟨gb352, 1, none⟩ = some (.string a0_1) := (kC BK352.out 1).trans rfl
    have hcz12_2 : w5.cell? ⟨gb352, 2, none⟩ = some (.slice A0_2 l0_2.length c0_2) := (kC BK352.out 2).trans rfl
    have hfz12_0 := kF BK352.out 0
    have hfz12_1 := kF BK352.out 1
    have hfz12_2 := kF BK352.out 2
    have hcz13_0 : w5.cell? ⟨gb353, 0, none⟩ = some (.string a1_0) := (kC BK353.out 0).trans rfl
    have hcz13_1 : w5.cell? ⟨gb353, 1, none⟩ = some (.string a1_1) := (kC BK353.out 1).trans rfl
    have hcz13_2 : w5.cell? ⟨gb353, 2, none⟩ = some (.slice A1_2 l1_2.length c1_2) := (kC BK353.out 2).trans rfl
    have hfz13_0 := kF BK353.out 0
    have hfz13_1 := kF BK353.out 1
    have hfz13_2 := kF BK353.out 2
    go_wp2
    repeat (go_quiet (fail); try go_wp2)
    go_meet
    case rel => exact ⟨_, (true), (by first | rfl | (simp; done) | (simp [*]; done)), H', ⟨by first | omega | exact Nat.le_refl _⟩, ⟨by (with_reducible repeat (first | refine kN ?_ _ | refine kD ?_ | refine kA ?_ _)); exact BK352.out⟩, ⟨by (with_reducible repeat (first | refine kN ?_ _ | refine kD ?_ | refine kA ?_ _)); exact BK353.out⟩, ⟨by repeat (first | (with_reducible first | exact HB.out | apply bA | apply bN | apply bD | refine bS ?_ GE352.out | refine bS ?_ GE353.out) | exact HB.out)⟩⟩
  rw [if_pos c7] at H
  have c7b0 : (a0_1.toList == a1_1.toList) = true := beq_iff_eq.mpr c7
  have c7b1 : (a0_1.toList != a1_1.toList) = false := bne_eq_false_iff_eq.mpr c7
  clear c7
  have H' := As.mk H
  clear H
  have hnb8 := NB352_353.out
  have hnc8 := NB353_352.out
  have hcz9_0 : w5.cell? ⟨gb352, 0, none⟩ = some (.string a0_0) := (kC BK352.out 0).trans rfl
  have hcz9_1 : w5.cell? ⟨gb352, 1, none⟩ = some (.string a0_1) := (kC BK352.out 1).trans rfl
  have hcz9_2 : w5.cell? ⟨gb352, 2, none⟩ = some (.slice A0_2 l0_2.length c0_2) := (kC BK352.out 2).trans rfl
  have hfz9_0 := kF BK352.out 0
  have hfz9_1 := kF BK352.out 1
  have hfz9_2 := kF BK352.out 2
  have hcz10_0 : w5.cell? ⟨gb353, 0, none⟩ = some (.string a1_0) := (kC BK353.out 0).trans rfl
  have hcz10_1 : w5.cell? ⟨gb353, 1, none⟩ = some (.string a1_1) := (kC BK353.out 1).trans rfl
  have hcz10_2 : w5.cell? ⟨gb353, 2, none⟩ = some (.slice A1_2 l1_2.length c1_2) := (kC BK353.out 2).trans rfl
  have hfz10_0 := kF BK353.out 0
  have hfz10_1 := kF BK353.out 1
  have hfz10_2 := kF BK353.out 2
  go_wp2
  repeat (go_quiet (fail); try go_wp2)
  go_meet
  case rel => exact ⟨_, (((l0_2.length : Int) != (l1_2.length : Int))), (by first | rfl | (simp; done) | (simp [*]; done)), H', ⟨by first | omega | exact Nat.le_refl _⟩, ⟨by (with_reducible repeat (first | refine kN ?_ _ | refine kD ?_ | refine kA ?_ _)); exact BK352.out⟩, ⟨by (with_reducible repeat (first | refine kN ?_ _ | refine kD ?_ | refine kA ?_ _)); exact BK353.out⟩, ⟨by repeat (first | (with_reducible first | exact HB.out | apply bA | apply bN | apply bD | refine bS ?_ GE352.out | refine bS ?_ GE353.out) | exact HB.out)⟩⟩
 case rest =>
  clear HC3
  try clear c1
  try clear p2
  try clear c6
  try clear c6b0
  try clear c6b1
  try clear c7
  try clear c7b0
  try clear c7b1
  try clear c8
  try clear c11
  try clear c13
  try clear c14
  try clear hcz10_0
  try clear hcz10_1
  try clear hcz10_2
  try clear hcz12_0
  try clear hcz12_1
  try clear hcz12_2
  try clear hcz13_0
  try clear hcz13_1
  try clear hcz13_2
  try clear hcz15_0
  try clear hcz15_1
  try clear hcz15_2
  try clear hcz16_0
  try clear hcz16_1
  try clear hcz16_2
  try clear hcz9_0
  try clear hcz9_1
  try clear hcz9_2
  try clear hfz10_0
  try clear hfz10_1
  try clear hfz10_2
  try clear hfz12_0
  try clear hfz12_1
  try clear hfz12_2
  try clear hfz13_0
  try clear hfz13_1
  try clear hfz13_2
  try clear hfz15_0
  try clear hfz15_1
  try clear hfz15_2
  try clear hfz16_0
  try clear hfz16_1
  try clear hfz16_2
  try clear hfz9_0
  try clear hfz9_1
  try clear hfz9_2
  obtain ⟨kq, x26_2, rfl, HA, HJ2, BK352, BK353, HB⟩ := hcut
  cases kq with
  | zero => exact absurd HA.out (by simp [majordomoref06_Same.j0])
  | succ kj2 =>
   have H := HA.out
   clear HA
   simp only [majordomoref06_Same.j0] at H
   by_cases c17 : x26_2 = true
   · subst c17
     have H1 : (some false) = some r := by rw [if_pos rfl] at H; exact H
     clear H
     have H := H1
     clear H1
     obtain rfl := Option.some.inj H
     go_wp2
     repeat (go_quiet (fail); try go_wp2)
     go_ret
     exact ⟨by first | rfl | (simp [errW_none, errW_some] <;> rfl) | (simp [*, errW_none, errW_some] <;> rfl), by repeat (first | (with_reducible first | exact HB.out | apply bA | apply bN | apply bD | refine bS ?_ GE352.out | refine bS ?_ GE353.out) | exact HB.out)⟩
   replace c17 := Bool.eq_false_iff.mpr c17
   subst c17
   have H1 : (majordomoref06_Same.l0 kj2 0 a0_0 a0_1 l0_2 a1_0 a1_1 l1_2) = some r := by rw [if_neg (show ¬ (false = true) by decide)] at H; exact H
   clear H
   have H := H1
   clear H1
   have H' := As.mk H
   clear H
   go_wp2
   repeat (go_quiet (fail); try go_wp2)
   go_loopg [5] kj2 (fun kq v5 w' => ∃ (x5_2 : Int), v5 = .int .i64 x5_2 ∧ As (majordomoref06_Same.l0 kq x5_2 a0_0 a0_1 l0_2 a1_0 a1_1 l1_2 = some r) ∧ As (kq ≤ kj2) ∧ As (w'.heap[gb352]? = some (.cells #[.string a0_0, .string a0_1, (.slice A0_2 l0_2.length c0_2)] 24 (0, 0))) ∧ As (w'.heap[gb353]? = some (.cells #[.string a1_0, .string a1_1, (.slice A1_2 l1_2.length c1_2)] 24 (0, 0))) ∧ As (Below w.heap.size w w'))
   case atStart => exact ⟨(0), (by first | rfl | (simp; done) | (simp [*]; done)), H', ⟨Nat.le_refl _⟩, ⟨by (with_reducible repeat (first | refine kN ?_ _ | refine kD ?_ | refine kA ?_ _)); exact BK352.out⟩, ⟨by (with_reducible repeat (first | refine kN ?_ _ | refine kD ?_ | refine kA ?_ _)); exact BK353.out⟩, ⟨by repeat (first | (with_reducible first | exact HB.out | apply bA | apply bN | apply bD | refine bS ?_ GE352.out | refine bS ?_ GE353.out) | exact HB.out)⟩⟩
   case round =>
    clear H'
    try clear c1
    try clear p2
    try clear c6
    try clear c6b0
    try clear c6b1
    try clear c7
    try clear c7b0
    try clear c7b1
    try clear c8
    try clear c11
    try clear c13
    try clear c14
    try clear c17
    try clear hcz10_0
    try clear hcz10_1
    try clear hcz10_2
    try clear hcz12_0
    try clear hcz12_1
    try clear hcz12_2
    try clear hcz13_0
    try clear hcz13_1
    try clear hcz13_2
    try clear hcz15_0
    try clear hcz15_1
    try clear hcz15_2
    try clear hcz16_0
    try clear hcz16_1
    try clear hcz16_2
    try clear hcz9_0
    try clear hcz9_1
    try clear hcz9_2
    try clear hfz10_0
    try clear hfz10_1
    try clear hfz10_2
    try clear hfz12_0
    try clear hfz12_1
    try clear hfz12_2
    try clear hfz13_0
    try clear hfz13_1
    try clear hfz13_2
    try clear hfz15_0
    try clear hfz15_1
    try clear hfz15_2
    try clear hfz16_0
    try clear hfz16_1
    try clear hfz16_2
    try clear hfz9_0
    try clear hfz9_1
    try clear hfz9_2
    try clear p2
    obtain ⟨x5_2, rfl, HA, HK2, BK352, BK353, HB⟩ := hrel
    cases gk with
    | zero => exact absurd HA.out (by simp [majordomoref06_Same.l0])
    | succ k2 =>
     have H := HA.out
     clear HA
     simp only [majordomoref06_Same.l0] at H
     by_cases c18 : x5_2 < (l0_2.length : Int)
     rotate_left
     · rw [if_neg c18] at H
       have c18b0 : decide (x5_2 < (l0_2.length : Int)) = false := decide_eq_false c18
       clear c18
       obtain rfl := Option.some.inj H
       have hnb28 := NB352_353.out
       have hnc28 := NB353_352.out
       have hcz29_0 : wr.cell? ⟨gb352, 0, none⟩ = some (.string a0_0) := (kC BK352.out 0).trans rfl
       have hcz29_1 : wr.cell? ⟨gb352, 1, none⟩ = some (.string a0_1) := (kC BK352.out 1).trans rfl
       have hcz29_2 : wr.cell? ⟨gb352, 2, none⟩ = some (.slice A0_2 l0_2.length c0_2) := (kC BK352.out 2).trans rfl
       have hfz29_0 := kF BK352.out 0
       have hfz29_1 := kF BK352.out 1
       have hfz29_2 := kF BK352.out 2
       go_wp2
       repeat (go_quiet (fail); try go_wp2)
       go_ret
       exact ⟨by first | rfl | (simp [errW_none, errW_some] <;> rfl) | (simp [*, errW_none, errW_some] <;> rfl), by repeat (first | (with_reducible first | exact HB.out | apply bA | apply bN | apply bD | refine bS ?_ GE352.out | refine bS ?_ GE353.out) | exact HB.out)⟩
     rw [if_pos c18] at H
     have c18b0 : decide (x5_2 < (l0_2.length : Int)) = true := decide_eq_true c18
     clear c18
     by_cases c19 : 0 ≤ x5_2
     rotate_left
     · rw [if_neg c19] at H
       exact absurd H (by simp)
     rw [if_pos c19] at H
     have c19b0 : decide (0 ≤ x5_2) = true := decide_eq_true c19
     clear c19
     by_cases c20 : x5_2 < (l1_2.length : Int)
     rotate_left
     · rw [if_neg c20] at H
       exact absurd H (by simp)
     rw [if_pos c20] at H
     have c20b0 : decide (x5_2 < (l1_2.length : Int)) = true := decide_eq_true c20
     clear c20
     by_cases c21 : (!((((rd_T31 l0_2 x5_2).f0).toList) == (((rd_T31 l1_2 x5_2).f0).toList)) || (!((((rd_T31 l0_2 x5_2).f1).toList) == (((rd_T31 l1_2 x5_2).f1).toList)))) = true
     · rw [if_pos c21] at H
       have c21b0 : (!((((rd_T31 l0_2 x5_2).f0).toList) == (((rd_T31 l1_2 x5_2).f0).toList)) || (!((((rd_T31 l0_2 x5_2).f1).toList) == (((rd_T31 l1_2 x5_2).f1).toList)))) = true := c21
       clear c21
       obtain rfl := Option.some.inj H
       have hnb22 := NB352_353.out
       have hnc22 := NB353_352.out
       have hcz23_0 : wr.cell? ⟨gb352, 0, none⟩ = some (.string a0_0) := (kC BK352.out 0).trans rfl
       have hcz23_1 : wr.cell? ⟨gb352, 1, none⟩ = some (.string a0_1) := (kC BK352.out 1).trans rfl
       have hcz23_2 : wr.cell? ⟨gb352, 2, none⟩ = some (.slice A0_2 l0_2.length c0_2) := (kC BK352.out 2).trans rfl
       have hfz23_0 := kF BK352.out 0
       have hfz23_1 := kF BK352.out 1
       have hfz23_2 := kF BK352.out 2
       have p354 : 0 ≤ (x5_2 : Int) := of_decide_eq_true (by first | (with_reducible assumption) | assumption)
       have q354 : x5_2 < (l0_2.length : Int) := of_decide_eq_true (by first | (with_reducible assumption) | assumption)
       obtain ⟨ad354, e354, hx354_0, hx354_1⟩ := at_T31 HR0_2.out x5_2 p354 q354
       cases e354
       replace hx354_0 := (HB.out.cell (World.block_lt_of_cell? w _ hx354_0)).trans hx354_0
       replace hx354_1 := (HB.out.cell (World.block_lt_of_cell? w _ hx354_1)).trans hx354_1
       replace p354 := eq_true p354
       replace q354 := eq_true q354
       have hcz24_0 : wr.cell? ⟨gb353, 0, none⟩ = some (.string a1_0) := (kC BK353.out 0).trans rfl
       have hcz24_1 : wr.cell? ⟨gb353, 1, none⟩ = some (.string a1_1) := (kC BK353.out 1).trans rfl
       have hcz24_2 : wr.cell? ⟨gb353, 2, none⟩ = some (.slice A1_2 l1_2.length c1_2) := (kC BK353.out 2).trans rfl
       have hfz24_0 := kF BK353.out 0
       have hfz24_1 := kF BK353.out 1
       have hfz24_2 := kF BK353.out 2
       have p355 : 0 ≤ (x5_2 : Int) := of_decide_eq_true (by first | (with_reducible assumption) | assumption)
       have q355 : x5_2 < (l1_2.length : Int) := of_decide_eq_true (by first | (with_reducible assumption) | assumption)
       obtain ⟨ad355, e355, hx355_0, hx355_1⟩ := at_T31 HR1_2.out x5_2 p355 q355
       cases e355
       replace hx355_0 := (HB.out.cell (World.block_lt_of_cell? w _ hx355_0)).trans hx355_0
       replace hx355_1 := (HB.out.cell (World.block_lt_of_cell? w _ hx355_1)).trans hx355_1
       replace p355 := eq_true p355
       replace q355 := eq_true q355
       go_wp2
       repeat (go_quiet (fail); try go_wp2)
       go_ret
       exact ⟨by first | rfl | (simp [errW_none, errW_some] <;> rfl) | (simp [*, errW_none, errW_some] <;> rfl), by repeat (first | (with_reducible first | exact HB.out | apply bA | apply bN | apply bD | refine bS ?_ GE352.out | refine bS ?_ GE353.out) | exact HB.out)⟩
     rw [if_neg c21] at H
     have c21b0 : (!((((rd_T31 l0_2 x5_2).f0).toList) == (((rd_T31 l1_2 x5_2).f0).toList)) || (!((((rd_T31 l0_2 x5_2).f1).toList) == (((rd_T31 l1_2 x5_2).f1).toList)))) = false := by simpa using c21
     clear c21
     have H' := As.mk H
     clear H
     have hnb25 := NB352_353.out
     have hnc25 := NB353_352.out
     have hcz26_0 : wr.cell? ⟨gb352, 0, none⟩ = some (.string a0_0) := (kC BK352.out 0).trans rfl
     have hcz26_1 : wr.cell? ⟨gb352, 1, none⟩ = some (.string a0_1) := (kC BK352.out 1).trans rfl
     have hcz26_2 : wr.cell? ⟨gb352, 2, none⟩ = some (.slice A0_2 l0_2.length c0_2) := (kC BK352.out 2).trans rfl
     have hfz26_0 := kF BK352.out 0
     have hfz26_1 := kF BK352.out 1
     have hfz26_2 := kF BK352.out 2
     have p354 : 0 ≤ (x5_2 : Int) := of_decide_eq_true (by first | (with_reducible assumption) | assumption)
     have q354 : x5_2 < (l0_2.length : Int) := of_decide_eq_true (by first | (with_reducible assumption) | assumption)
     obtain ⟨ad354, e354, hx354_0, hx354_1⟩ := at_T31 HR0_2.out x5_2 p354 q354
     cases e354
     replace hx354_0 := (HB.out.cell (World.block_lt_of_cell? w _ hx354_0)).trans hx354_0
     replace hx354_1 := (HB.out.cell (World.block_lt_of_cell? w _ hx354_1)).trans hx354_1
     replace p354 := eq_true p354
     replace q354 := eq_true q354
     have hcz27_0 : wr.cell? ⟨gb353, 0, none⟩ = some (.string a1_0) := (kC BK353.out 0).trans rfl
     have hcz27_1 : wr.cell? ⟨gb353, 1, none⟩ = some (.string a1_1) := (kC BK353.out 1).trans rfl
     have hcz27_2 : wr.cell? ⟨gb353, 2, none⟩ = some (.slice A1_2 l1_2.length c1_2) := (kC BK353.out 2).trans rfl
     have hfz27_0 := kF BK353.out 0
     have hfz27_1 := kF BK353.out 1
     have hfz27_2 := kF BK353.out 2
     have p355 : 0 ≤ (x5_2 : Int) := of_decide_eq_true (by first | (with_reducible assumption) | assumption)
     have q355 : x5_2 < (l1_2.length : Int) := of_decide_eq_true (by first | (with_reducible assumption) | assumption)
     obtain ⟨ad355, e355, hx355_0, hx355_1⟩ := at_T31 HR1_2.out x5_2 p355 q355
     cases e355
     replace hx355_0 := (HB.out.cell (World.block_lt_of_cell? w _ hx355_0)).trans hx355_0
     replace hx355_1 := (HB.out.cell (World.block_lt_of_cell? w _ hx355_1)).trans hx355_1
     replace p355 := eq_true p355
     replace q355 := eq_true q355
     go_wp2
     repeat (go_quiet (fail); try go_wp2)
     go_roundg k2
     case measure => have := HJ2.out; have := HK2.out; omega
     case rel => exact ⟨(wrap64 (x5_2 + 1)), (by first | rfl | (simp; done) | (simp [*]; done)), H', ⟨by have := HJ2.out; have := HK2.out; omega⟩, ⟨by (with_reducible repeat (first | refine kN ?_ _ | refine kD ?_ | refine kA ?_ _)); exact BK352.out⟩, ⟨by (with_reducible repeat (first | refine kN ?_ _ | refine kD ?_ | refine kA ?_ _)); exact BK353.out⟩, ⟨by repeat (first | (with_reducible first | exact HB.out | apply bA | apply bN | apply bD | refine bS ?_ GE352.out | refine bS ?_ GE353.out) | exact HB.out)⟩⟩
end Go.Proofs.YtkgafkoopefghaaGreatDoor.PA
end
section
namespace Go.Proofs.YtkgafkoopefghaaGreatDoor.PA
open Go.RowKit Go.Proofs.YtkgafkoopefghaaGreatDoorW.PrintWords Go.Proofs.YtkgafkoopefghaaGreatDoorW.PrintLast Go.Proofs.YtkgafkoopefghaaGreatDoorW.PrintMore
open Go.Proofs.YtkgafkoopefghaaGreatDoor.Hk
attribute [local go_sem high] Go.Proofs.YtkgafkoopefghaaGreatDoor.Hk.binOp_leq_not
attribute [local go_sem] max2_int min2_int max_two min_two max_three min_three max_four min_four
set_option linter.unusedVariables false
set_option linter.unusedSimpArgs false
attribute [local go_sem high] eqA50
mutual
def majordomoref07_Same.j0 : Nat → Bool → Int → ByteArray → List (S24) → List (S50) → Int → ByteArray → List (S24) → List (S50) → Option (Bool)
 | 0, _, _, _, _, _, _, _, _, _ => none
 | k + 1, x36, x357000, x357001, x357002, x357003, x358000, x358001, x358002, x358003 => if x36 = true then (some false) else (majordomoref07_Same.l0 k 0 x357000 x357001 x357002 x357003 x358000 x358001 x358002 x358003)
def majordomoref07_Same.l0 : Nat → Int → Int → ByteArray → List (S24) → List (S50) → Int → ByteArray → List (S24) → List (S50) → Option (Bool)
 | 0, _, _, _, _, _, _, _, _, _ => none
 | k + 1, x5, x357000, x357001, x357002, x357003, x358000, x358001, x358002, x358003 => if x5 < (x357002.length : Int) then (if 0 ≤ x5 then (if x5 < (x358002.length : Int) then ((majordomoref06_Same.f k ((rd_T24 x357002 x5).f0) ((rd_T24 x357002 x5).f1) ((rd_T24 x357002 x5).f2) ((rd_T24 x358002 x5).f0) ((rd_T24 x358002 x5).f1) ((rd_T24 x358002 x5).f2)).bind fun t360 => (if t360 = true then (majordomoref07_Same.l0 k (wrap64 (x5 + 1)) x357000 x357001 x357002 x357003 x358000 x358001 x358002 x358003) else (some false))) else (none)) else (none)) else (majordomoref07_Same.l1 k 0 x357000 x357001 x357002 x357003 x358000 x358001 x358002 x358003)
def majordomoref07_Same.l1 : Nat → Int → Int → ByteArray → List (S24) → List (S50) → Int → ByteArray → List (S24) → List (S50) → Option (Bool)
 | 0, _, _, _, _, _, _, _, _, _ => none
 | k + 1, x6, x357000, x357001, x357002, x357003, x358000, x358001, x358002, x358003 => if x6 < (x357003.length : Int) then (if 0 ≤ x6 then (if x6 < (x358003.length : Int) then (if (!(((rd_T50 x357003 x6).f0) == ((rd_T50 x358003 x6).f0)) || (!(((rd_T50 x357003 x6).f1) == ((rd_T50 x358003 x6).f1)) || (!(((rd_T50 x357003 x6).f2) == ((rd_T50 x358003 x6).f2))))) = true then (some false) else (majordomoref07_Same.l1 k (wrap64 (x6 + 1)) x357000 x357001 x357002 x357003 x358000 x358001 x358002 x358003)) else (none)) else (none)) else (some true)
end
def majordomoref07_Same.f (k : Nat) (a0_0 : Int) (a0_1 : ByteArray) (l0_2 : List (S24)) (l0_3 : List (S50)) (a1_0 : Int) (a1_1 : ByteArray) (l1_2 : List (S24)) (l1_3 : List (S50)) : Option (Bool) := if a0_0 = a1_0 then (if a0_1.toList = a1_1.toList then (if (l0_2.length : Int) = (l1_2.length : Int) then (majordomoref07_Same.j0 k ((l0_3.length : Int) != (l1_3.length : Int)) a0_0 a0_1 l0_2 l0_3 a1_0 a1_1 l1_2 l1_3) else (majordomoref07_Same.j0 k true a0_0 a0_1 l0_2 l0_3 a1_0 a1_1 l1_2 l1_3)) else (majordomoref07_Same.j0 k true a0_0 a0_1 l0_2 l0_3 a1_0 a1_1 l1_2 l1_3)) else (majordomoref07_Same.j0 k true a0_0 a0_1 l0_2 l0_3 a1_0 a1_1 l1_2 l1_3)
def majordomoref07_Same.T6 : Bool × List (List Nat × List Nat) := (true, [([], []), ([0], [0]), ([], []), ([1, 2], [1, 2]), ([3], [3]), ([], []), ([5], [5]), ([], []), ([6, 7], [6, 7]), ([8], [8]), ([4, 9], [4, 9]), ([10], [10])])
def majordomoref07_Same.B6 : List Nat := [0, 1, 0, 7, 15, 0, 32, 0, 224, 480, 1023, 2047]
theorem majordomoref07_Same.tab6 : rtab .any (opsOf Tryz.f20 6) = majordomoref07_Same.T6 := by kernel_rfl
theorem majordomoref07_Same.bits6 : waitsOk majordomoref07_Same.T6.2 majordomoref07_Same.B6 = true := by kernel_rfl
def majordomoref07_Same.T11 : Bool × List (List Nat × List Nat) := (true, [([], []), ([0], [0]), ([], []), ([1, 2], [1, 2]), ([3], [3]), ([], []), ([5], [5]), ([], []), ([6, 7], [6, 7]), ([8], [8]), ([4, 9], [4, 9])])
def majordomoref07_Same.B11 : List Nat := [0, 1, 0, 7, 15, 0, 32, 0, 224, 480, 1023]
theorem majordomoref07_Same.tab11 : rtab .any (opsOf Tryz.f20 11) = majordomoref07_Same.T11 := by kernel_rfl
theorem majordomoref07_Same.bits11 : waitsOk majordomoref07_Same.T11.2 majordomoref07_Same.B11 = true := by kernel_rfl
set_option maxHeartbeats 8000000 in
set_option maxRecDepth 100000 in
theorem majordomoref07_Same.calls (k : Nat) (a0_0 : Int) (a0_1 : ByteArray) (A0_2 : Option Addr) (c0_2 : Nat) (l0_2 : List (S24)) (A0_3 : Option Addr) (c0_3 : Nat) (l0_3 : List (S50)) (a1_0 : Int) (a1_1 : ByteArray) (A1_2 : Option Addr) (c1_2 : Nat) (l1_2 : List (S24)) (A1_3 : Option Addr) (c1_3 : Nat) (l1_3 : List (S50)) (r : Bool) (w : World) (hr0_2 : Kd.C k24 w A0_2 l0_2.length l0_2) (hc0_2 : l0_2.length ≤ c0_2) (hr0_3 : Kd.C k50 w A0_3 l0_3.length l0_3) (hc0_3 : l0_3.length ≤ c0_3) (hr1_2 : Kd.C k24 w A1_2 l1_2.length l1_2) (hc1_2 : l1_2.length ≤ c1_2) (hr1_3 : Kd.C k50 w A1_3 l1_3.length l1_3) (hc1_3 : l1_3.length ≤ c1_3) (h : majordomoref07_Same.f k a0_0 a0_1 l0_2 l0_3 a1_0 a1_1 l1_2 l1_3 = some r) :
 Calls Tryz.prog 20 #[.agg #[.int .i64 a0_0, .string a0_1, .slice A0_2 l0_2.length c0_2, .slice A0_3 l0_3.length c0_3], .agg #[.int .i64 a1_0, .string a1_1, .slice A1_2 l1_2.length c1_2, .slice A1_3 l1_3.length c1_3]] w fun e w' => e = .returned (.bool r) ∧ Below w.heap.size w w' := by
 have hu37 := Tryz.underlying37
 have hu24 := Tryz.underlying24
 have hu50 := Tryz.underlying50
 have HR0_2 := As.mk hr0_2
 have HC0_2 := As.mk hc0_2
 clear hr0_2 hc0_2
 have HR0_3 := As.mk hr0_3
 have HC0_3 := As.mk hc0_3
 clear hr0_3 hc0_3
 have HR1_2 := As.mk hr1_2
 have HC1_2 := As.mk hc1_2
 clear hr1_2 hc1_2
 have HR1_3 := As.mk hr1_3
 have HC1_3 := As.mk hc1_3
 clear hr1_3 hc1_3
 have HB := As.mk (Below.refl w.heap.size w)
 have H : (if a0_0 = a1_0 then (if a0_1.toList = a1_1.toList then (if (l0_2.length : Int) = (l1_2.length : Int) then (majordomoref07_Same.j0 k ((l0_3.length : Int) != (l1_3.length : Int)) a0_0 a0_1 l0_2 l0_3 a1_0 a1_1 l1_2 l1_3) else (majordomoref07_Same.j0 k true a0_0 a0_1 l0_2 l0_3 a1_0 a1_1 l1_2 l1_3)) else (majordomoref07_Same.j0 k true a0_0 a0_1 l0_2 l0_3 a1_0 a1_1 l1_2 l1_3)) else (majordomoref07_Same.j0 k true a0_0 a0_1 l0_2 l0_3 a1_0 a1_1 l1_2 l1_3)) = some r := h
 clear h
 have HC3 := As.mk H
 clear H
 go_enter Tryz.func20, Tryz.ntmps20
 go_upto_region 1 with (first | ((with_reducible refine gate_dst (N := 2) rfl ?_); (try (refine gate_guard (by rfl) ?_; dsimp only)); refine box_event ?hg (N := 2) ?hd (cs := #[.int .i64 a0_0, .string a0_1, .slice A0_2 l0_2.length c0_2, .slice A0_3 l0_3.length c0_3]) (t := 37) ?hr ?_; (case hd => rfl); (case hg => rfl); (case hr => first | (go_simp; done) | (go_simp; rfl)); intro gb356 hg w4 hbox hb; have n0_ := As.mk (bT (by repeat (first | (with_reducible first | exact HB.out | apply bA | apply bN | apply bD) | exact HB.out)) hb); have n1_ := As.mk (hbox); have n2_ := As.mk ((by rw [hg]; exact (bZ (by repeat (first | (with_reducible first | exact HB.out | apply bA | apply bN | apply bD) | exact HB.out))) : w.heap.size ≤ gb356)); have n3_ := As.mk ((by rw [hg]; exact (bZ (by repeat (first | (with_reducible first | exact HB.out | apply bA | apply bN | apply bD) | exact HB.out))) : w.heap.size ≤ gb356)); clear HB; have HB := n0_; have BK356 := n1_; have GW356 := n2_; have GE356 := n3_; clear n0_ n1_ n2_ n3_; clear hb hbox hg) | ((with_reducible refine gate_dst (N := 3) rfl ?_); (try (refine gate_guard (by rfl) ?_; dsimp only)); refine box_event ?hg (N := 3) ?hd (cs := #[.int .i64 a1_0, .string a1_1, .slice A1_2 l1_2.length c1_2, .slice A1_3 l1_3.length c1_3]) (t := 37) ?hr ?_; (case hd => rfl); (case hg => rfl); (case hr => first | (go_simp; done) | (go_simp; rfl)); intro gb357 hg w5 hbox hb; have n0_ := As.mk (kB (g := gb356) (o := .cells #[.int .i64 a0_0, .string a0_1, .slice A0_2 l0_2.length c0_2, .slice A0_3 l0_3.length c0_3] 37 (0, 0)) (by (with_reducible repeat (first | refine kN ?_ _ | refine kD ?_ | refine kA ?_ _)); exact BK356.out) hb); have n1_ := As.mk (bT (by repeat (first | (with_reducible first | exact HB.out | apply bA | apply bN | apply bD | refine bS ?_ GE356.out) | exact HB.out)) hb); have n2_ := As.mk (hbox); have n3_ := As.mk ((by rw [hg]; exact (bZ (by repeat (first | (with_reducible first | exact HB.out | apply bA | apply bN | apply bD | refine bS ?_ GE356.out) | exact HB.out))) : w.heap.size ≤ gb357)); have n4_ := As.mk ((by rw [hg]; exact (bZ (by repeat (first | (with_reducible first | exact HB.out | apply bA | apply bN | apply bD | refine bS ?_ GE356.out) | exact HB.out))) : w.heap.size ≤ gb357)); have n5_ := As.mk ((by rw [hg]; exact Nat.ne_of_lt (blk_lt (g := gb356) (o := .cells #[.int .i64 a0_0, .string a0_1, .slice A0_2 l0_2.length c0_2, .slice A0_3 l0_3.length c0_3] 37 (0, 0)) (by (with_reducible repeat (first | refine kN ?_ _ | refine kD ?_ | refine kA ?_ _)); exact BK356.out)) : gb356 ≠ gb357)); have n6_ := As.mk ((by rw [hg]; exact Nat.ne_of_gt (blk_lt (g := gb356) (o := .cells #[.int .i64 a0_0, .string a0_1, .slice A0_2 l0_2.length c0_2, .slice A0_3 l0_3.length c0_3] 37 (0, 0)) (by (with_reducible repeat (first | refine kN ?_ _ | refine kD ?_ | refine kA ?_ _)); exact BK356.out)) : gb357 ≠ gb356)); clear BK356; clear HB; have BK356 := n0_; have HB := n1_; have BK357 := n2_; have GW357 := n3_; have GE357 := n4_; have NB356_357 := n5_; have NB357_356 := n6_; clear n0_ n1_ n2_ n3_ n4_ n5_ n6_; clear hb hbox hg))
 (try simp only [Act.put, zA, zZ, zS])
 go_cut [36] (fun v36 wc => ∃ (kq : Nat) (x36_2 : Bool), v36 = .bool x36_2 ∧ As (majordomoref07_Same.j0 kq x36_2 a0_0 a0_1 l0_2 l0_3 a1_0 a1_1 l1_2 l1_3 = some r) ∧ As (kq ≤ k) ∧ As (wc.heap[gb356]? = some (.cells #[.int .i64 a0_0, .string a0_1, (.slice A0_2 l0_2.length c0_2), (.slice A0_3 l0_3.length c0_3)] 37 (0, 0))) ∧ As (wc.heap[gb357]? = some (.cells #[.int .i64 a1_0, .string a1_1, (.slice A1_2 l1_2.length c1_2), (.slice A1_3 l1_3.length c1_3)] 37 (0, 0))) ∧ As (Below w.heap.size w wc))
 case first =>
  have H := HC3.out
  clear HC3
  by_cases c6 : a0_0 = a1_0
  rotate_left
  · rw [if_neg c6] at H
    have c6b0 : (a0_0 == a1_0) = false := beq_eq_false_iff_ne.mpr c6
    have c6b1 : (a0_0 != a1_0) = true := bne_iff_ne.mpr c6
    (first | rw [c6b0] | (simp only [i64_w, i32_w]; rw [c6b0]) | skip)
    have H' := As.mk H
    clear H
    have hnb18 := NB356_357.out
    have hnc18 := NB357_356.out
    have hcz19_0 : w5.cell? ⟨gb356, 0, none⟩ = some (.int .i64 a0_0) := (kC BK356.out 0).trans rfl
    have hcz19_1 : w5.cell? ⟨gb356, 1, none⟩ = some (.string a0_1) := (kC BK356.out 1).trans rfl
    have hcz19_2 : w5.cell? ⟨gb356, 2, none⟩ = some (.slice A0_2 l0_2.length c0_2) := (kC BK356.out 2).trans rfl
    have hcz19_3 : w5.cell? ⟨gb356, 3, none⟩ = some (.slice A0_3 l0_3.length c0_3) := (kC BK356.out 3).trans rfl
    have hfz19_0 := kF BK356.out 0
    have hfz19_1 := kF BK356.out 1
    have hfz19_2 := kF BK356.out 2
    have hfz19_3 := kF BK356.out 3
    have hcz20_0 : w5.cell? ⟨gb357, 0, none⟩ = some (.int .i64 a1_0) := (kC BK357.out 0).trans rfl
    have hcz20_1 : w5.cell? ⟨gb357, 1, none⟩ = some (.string a1_1) := (kC BK357.out 1).trans rfl
    have hcz20_2 : w5.cell? ⟨gb357, 2, none⟩ = some (.slice A1_2 l1_2.length c1_2) := (kC BK357.out 2).trans rfl
    have hcz20_3 : w5.cell? ⟨gb357, 3, none⟩ = some (.slice A1_3 l1_3.length c1_3) := (kC BK357.out 3).trans rfl
    have hfz20_0 := kF BK357.out 0
    have hfz20_1 := kF BK357.out 1
    have hfz20_2 := kF BK357.out 2
    have hfz20_3 := kF BK357.out 3
    go_wp2
    go_meet
    case rel => exact ⟨_, (true), (by first | rfl | (simp; done) | (simp [*]; done)), H', ⟨by first | omega | exact Nat.le_refl _⟩, ⟨by (with_reducible repeat (first | refine kN ?_ _ | refine kD ?_ | refine kA ?_ _)); exact BK356.out⟩, ⟨by (with_reducible repeat (first | refine kN ?_ _ | refine kD ?_ | refine kA ?_ _)); exact BK357.out⟩, ⟨by repeat (first | (with_reducible first | exact HB.out | apply bA | apply bN | apply bD | refine bS ?_ GE356.out | refine bS ?_ GE357.out) | exact HB.out)⟩⟩
  rw [if_pos c6] at H
  have c6b0 : (a0_0 == a1_0) = true := beq_iff_eq.mpr c6
  have c6b1 : (a0_0 != a1_0) = false := bne_eq_false_iff_eq.mpr c6
  clear c6
  (first | rw [c6b0] | (simp only [i64_w, i32_w]; rw [c6b0]) | skip)
  by_cases c7 : a0_1.toList = a1_1.toList
  rotate_left
  · rw [if_neg c7] at H
    have c7b0 : (a0_1.toList == a1_1.toList) = false := beq_eq_false_iff_ne.mpr c7
    have c7b1 : (a0_1.toList != a1_1.toList) = true := bne_iff_ne.mpr c7
    have H' := As.mk H
    clear H
    have hnb15 := NB356_357.out
    have hnc15 := NB357_356.out
    have hcz16_0 : w5.cell? ⟨gb356, 0, none⟩ = some (.int .i64 a0_0) := (kC BK356.out 0).trans rfl
    have hcz16_1 : w5.cell? ⟨gb356, 1, none⟩ = some (.string a0_1) := (kC BK356.out 1).trans rfl
    have hcz16_2 : w5.cell? ⟨gb356, 2, none⟩ = some (.slice A0_2 l0_2.length c0_2) := (kC BK356.out 2).trans rfl
    have hcz16_3 : w5.cell? ⟨gb356, 3, none⟩ = some (.slice A0_3 l0_3.length c0_3) := (kC BK356.out 3).trans rfl
    have hfz16_0 := kF BK356.out 0
    have hfz16_1 := kF BK356.out 1
    have hfz16_2 := kF BK356.out 2
    have hfz16_3 := kF BK356.out 3
    have hcz17_0 : w5.cell? ⟨gb357, 0, none⟩ = some (.int .i64 a1_0) := (kC BK357.out 0).trans rfl
    have hcz17_1 : w5.cell? ⟨gb357, 1, none⟩ = some (.string a1_1) := (kC BK357.out 1).trans rfl
    have hcz17_2 : w5.cell? ⟨gb357, 2, none⟩ = some (.slice A1_2 l1_2.length c1_2) := (kC BK357.out 2).trans rfl
    have hcz17_3 : w5.cell? ⟨gb357, 3, none⟩ = some (.slice A1_3 l1_3.length c1_3) := (kC BK357.out 3).trans rfl
    have hfz17_0 := kF BK357.out 0
    have hfz17_1 := kF BK357.out 1
    have hfz17_2 := kF BK357.out 2
    have hfz17_3 := kF BK357.out 3
    go_wp2
    go_meet
    case rel => exact ⟨_, (true), (by first | rfl | (simp; done) | (simp [*]; done)), H', ⟨by first | omega | exact Nat.le_refl _⟩, ⟨by (with_reducible repeat (first | refine kN ?_ _ | refine kD ?_ | refine kA ?_ _)); exact BK356.out⟩, ⟨by (with_reducible repeat (first | refine kN ?_ _ | refine kD ?_ | refine kA ?_ _)); exact BK357.out⟩, ⟨by repeat (first | (with_reducible first | exact HB.out | apply bA | apply bN | apply bD | refine bS ?_ GE356.out | refine bS ?_ GE357.out) | exact HB.out)⟩⟩
  rw [if_pos c7] at H
  have c7b0 : (a0_1.toList == a1_1.toList) = true := beq_iff_eq.mpr c7
  have c7b1 : (a0_1.toList != a1_1.toList) = false := bne_eq_false_iff_eq.mpr c7
  clear c7
  by_cases c8 : (l0_2.length : Int) = (l1_2.length : Int)
  rotate_left
  · rw [if_neg c8] at H
    have c8b0 : ((l0_2.length : Int) == (l1_2.length : Int)) = false := beq_eq_false_iff_ne.mpr c8
    have c8b1 : ((l0_2.length : Int) != (l1_2.length : Int)) = true := bne_iff_ne.mpr c8
    have c8b2 : (l0_2.length == l1_2.length) = false := by first | simpa using c8 | (simp at c8 ⊢; omega)
    have H' := As.mk H
    clear H
    have hnb12 := NB356_357.out
    have hnc12 := NB357_356.out
    have hcz13_0 : w5.cell? ⟨gb356, 0, none⟩ = some (.int .i64 a0_0) := (kC BK356.out 0).trans rfl
    have hcz13_1 : w5.cell? ⟨gb356, 1, none⟩ = some (.string a0_1) := (kC BK356.out 1).trans rfl
    have hcz13_2 : w5.cell? ⟨gb356, 2, none⟩ = some (.slice A0_2 l0_2.length c0_2) := (kC BK356.out 2).trans rfl
    have hcz13_3 : w5.cell? ⟨gb356, 3, none⟩ = some (.slice A0_3 l0_3.length c0_3) := (kC BK356.out 3).trans rfl
    have hfz13_0 := kF BK356.out 0
    have hfz13_1 := kF BK356.out 1
    have hfz13_2 := kF BK356.out 2
    have hfz13_3 := kF BK356.out 3
    have hcz14_0 : w5.cell? ⟨gb357, 0, none⟩ = some (.int .i64 a1_0) := (kC BK357.out 0).trans rfl
    have hcz14_1 : w5.cell? ⟨gb357, 1, none⟩ = some (.string a1_1) := (kC BK357.out 1).trans rfl
    have hcz14_2 : w5.cell? ⟨gb357, 2, none⟩ = some (.slice A1_2 l1_2.length c1_2) := (kC BK357.out 2).trans rfl
    have hcz14_3 : w5.cell? ⟨gb357, 3, none⟩ = some (.slice A1_3 l1_3.length c1_3) := (kC BK357.out 3).trans rfl
    have hfz14_0 := kF BK357.out 0
    have hfz14_1 := kF BK357.out 1
    have hfz14_2 := kF BK357.out 2
    have hfz14_3 := kF BK357.out 3
    go_wp2
    go_meet
    case rel => exact ⟨_, (true), (by first | rfl | (simp; done) | (simp [*]; done)), H', ⟨by first | omega | exact Nat.le_refl _⟩, ⟨by (with_reducible repeat (first | refine kN ?_ _ | refine kD ?_ | refine kA ?_ _)); exact BK356.out⟩, ⟨by (with_reducible repeat (first | refine kN ?_ _ | refine kD ?_ | refine kA ?_ _)); exact BK357.out⟩, ⟨by repeat (first | (with_reducible first | exact HB.out | apply bA | apply bN | apply bD | refine bS ?_ GE356.out | refine bS ?_ GE357.out) | exact HB.out)⟩⟩
  rw [if_pos c8] at H
  have c8b0 : ((l0_2.length : Int) == (l1_2.length : Int)) = true := beq_iff_eq.mpr c8
  have c8b1 : ((l0_2.length : Int) != (l1_2.length : Int)) = false := bne_eq_false_iff_eq.mpr c8
  have c8b2 : (l0_2.length == l1_2.length) = true := by first | simpa using c8 | (simp at c8 ⊢; omega)
  clear c8
  have H' := As.mk H
  clear H
  have hnb9 := NB356_357.out
  have hnc9 := NB357_356.out
  have hcz10_0 : w5.cell? ⟨gb356, 0, none⟩ = some (.int .i64 a0_0) := (kC BK356.out 0).trans rfl
  have hcz10_1 : w5.cell? ⟨gb356, 1, none⟩ = some (.string a0_1) := (kC BK356.out 1).trans rfl
  have hcz10_2 : w5.cell? ⟨gb356, 2, none⟩ = some (.slice A0_2 l0_2.length c0_2) := (kC BK356.out 2).trans rfl
  have hcz10_3 : w5.cell? ⟨gb356, 3, none⟩ = some (.slice A0_3 l0_3.length c0_3) := (kC BK356.out 3).trans rfl
  have hfz10_0 := kF BK356.out 0
  have hfz10_1 := kF BK356.out 1
  have hfz10_2 := kF BK356.out 2
  have hfz10_3 := kF BK356.out 3
  have hcz11_0 : w5.cell? ⟨gb357, 0, none⟩ = some (.int .i64 a1_0) := (kC BK357.out 0).trans rfl
  have hcz11_1 : w5.cell? ⟨gb357, 1, none⟩ = some (.string a1_1) := (kC BK357.out 1).trans rfl
  have hcz11_2 : w5.cell? ⟨gb357, 2, none⟩ = some (.slice A1_2 l1_2.length c1_2) := (kC BK357.out 2).trans rfl
  have hcz11_3 : w5.cell? ⟨gb357, 3, none⟩ = some (.slice A1_3 l1_3.length c1_3) := (kC BK357.out 3).trans rfl
  have hfz11_0 := kF BK357.out 0
  have hfz11_1 := kF BK357.out 1
  have hfz11_2 := kF BK357.out 2
  have hfz11_3 := kF BK357.out 3
  go_wp2
  go_meet
  case rel => exact ⟨_, (((l0_3.length : Int) != (l1_3.length : Int))), (by first | rfl | (simp; done) | (simp [*]; done)), H', ⟨by first | omega | exact Nat.le_refl _⟩, ⟨by (with_reducible repeat (first | refine kN ?_ _ | refine kD ?_ | refine kA ?_ _)); exact BK356.out⟩, ⟨by (with_reducible repeat (first | refine kN ?_ _ | refine kD ?_ | refine kA ?_ _)); exact BK357.out⟩, ⟨by repeat (first | (with_reducible first | exact HB.out | apply bA | apply bN | apply bD | refine bS ?_ GE356.out | refine bS ?_ GE357.out) | exact HB.out)⟩⟩
 case rest =>
  clear HC3
  try clear c1
  try clear c2
  try clear p2
  try clear c6
  try clear c6b0
  try clear c6b1
  try clear c7
  try clear c7b0
  try clear c7b1
  try clear c8
  try clear c8b0
  try clear c8b1
  try clear c8b2
  try clear c9
  try clear c12
  try clear c15
  try clear c18
  try clear c20
  try clear hcz10_0
  try clear hcz10_1
  try clear hcz10_2
  try clear hcz10_3
  try clear hcz11_0
  try clear hcz11_1
  try clear hcz11_2
  try clear hcz11_3
  try clear hcz13_0
  try clear hcz13_1
  try clear hcz13_2
  try clear hcz13_3
  try clear hcz14_0
  try clear hcz14_1
  try clear hcz14_2
  try clear hcz14_3
  try clear hcz16_0
  try clear hcz16_1
  try clear hcz16_2
  try clear hcz16_3
  try clear hcz17_0
  try clear hcz17_1
  try clear hcz17_2
  try clear hcz17_3
  try clear hcz19_0
  try clear hcz19_1
  try clear hcz19_2
  try clear hcz19_3
  try clear hcz20_0
  try clear hcz20_1
  try clear hcz20_2
  try clear hcz20_3
  try clear hfz10_0
  try clear hfz10_1
  try clear hfz10_2
  try clear hfz10_3
  try clear hfz11_0
  try clear hfz11_1
  try clear hfz11_2
  try clear hfz11_3
  try clear hfz13_0
  try clear hfz13_1
  try clear hfz13_2
  try clear hfz13_3
  try clear hfz14_0
  try clear hfz14_1
  try clear hfz14_2
  try clear hfz14_3
  try clear hfz16_0
  try clear hfz16_1
  try clear hfz16_2
  try clear hfz16_3
  try clear hfz17_0
  try clear hfz17_1
  try clear hfz17_2
  try clear hfz17_3
  try clear hfz19_0
  try clear hfz19_1
  try clear hfz19_2
  try clear hfz19_3
  try clear hfz20_0
  try clear hfz20_1
  try clear hfz20_2
  try clear hfz20_3
  obtain ⟨kq, x36_2, rfl, HA, HJ2, BK356, BK357, HB⟩ := hcut
  cases kq with
  | zero => exact absurd HA.out (by simp [majordomoref07_Same.j0])
  | succ kj2 =>
   have H := HA.out
   clear HA
   simp only [majordomoref07_Same.j0] at H
   by_cases c21 : x36_2 = true
   · subst c21
     have H1 : (some false) = some r := by rw [if_pos rfl] at H; exact H
     clear H
     have H := H1
     clear H1
     obtain rfl := Option.some.inj H
     go_wp2
     go_ret
     exact ⟨by first | rfl | (simp [errW_none, errW_some] <;> rfl) | (simp [*, errW_none, errW_some] <;> rfl), by repeat (first | (with_reducible first | exact HB.out | apply bA | apply bN | apply bD | refine bS ?_ GE356.out | refine bS ?_ GE357.out) | exact HB.out)⟩
   replace c21 := Bool.eq_false_iff.mpr c21
   subst c21
   have H1 : (majordomoref07_Same.l0 kj2 0 a0_0 a0_1 l0_2 l0_3 a1_0 a1_1 l1_2 l1_3) = some r := by rw [if_neg (show ¬ (false = true) by decide)] at H; exact H
   clear H
   have H := H1
   clear H1
   have H' := As.mk H
   clear H
   go_wp2
   go_loopg [5] kj2 (fun kq v5 w' => ∃ (x5_2 : Int), v5 = .int .i64 x5_2 ∧ As (majordomoref07_Same.l0 kq x5_2 a0_0 a0_1 l0_2 l0_3 a1_0 a1_1 l1_2 l1_3 = some r) ∧ As (kq ≤ kj2) ∧ As (w'.heap[gb356]? = some (.cells #[.int .i64 a0_0, .string a0_1, (.slice A0_2 l0_2.length c0_2), (.slice A0_3 l0_3.length c0_3)] 37 (0, 0))) ∧ As (w'.heap[gb357]? = some (.cells #[.int .i64 a1_0, .string a1_1, (.slice A1_2 l1_2.length c1_2), (.slice A1_3 l1_3.length c1_3)] 37 (0, 0))) ∧ As (Below w.heap.size w w'))
   case atStart => exact ⟨(0), (by first | rfl | (simp; done) | (simp [*]; done)), H', ⟨Nat.le_refl _⟩, ⟨by (with_reducible repeat (first | refine kN ?_ _ | refine kD ?_ | refine kA ?_ _)); exact BK356.out⟩, ⟨by (with_reducible repeat (first | refine kN ?_ _ | refine kD ?_ | refine kA ?_ _)); exact BK357.out⟩, ⟨by repeat (first | (with_reducible first | exact HB.out | apply bA | apply bN | apply bD | refine bS ?_ GE356.out | refine bS ?_ GE357.out) | exact HB.out)⟩⟩
   case round =>
    clear H'
    try clear c1
    try clear c2
    try clear p2
    try clear c6
    try clear c6b0
    try clear c6b1
    try clear c7
    try clear c7b0
    try clear c7b1
    try clear c8
    try clear c8b0
    try clear c8b1
    try clear c8b2
    try clear c9
    try clear c12
    try clear c15
    try clear c18
    try clear c20
    try clear c21
    try clear hcz10_0
    try clear hcz10_1
    try clear hcz10_2
    try clear hcz10_3
    try clear hcz11_0
    try clear hcz11_1
    try clear hcz11_2
    try clear hcz11_3
    try clear hcz13_0
    try clear hcz13_1
    try clear hcz13_2
    try clear hcz13_3
    try clear hcz14_0
    try clear hcz14_1
    try clear hcz14_2
    try clear hcz14_3
    try clear hcz16_0
    try clear hcz16_1
    try clear hcz16_2
    try clear hcz16_3
    try clear hcz17_0
    try clear hcz17_1
    try clear hcz17_2
    try clear hcz17_3
    try clear hcz19_0
    try clear hcz19_1
    try clear hcz19_2
    try clear hcz19_3
    try clear hcz20_0
    try clear hcz20_1
    try clear hcz20_2
    try clear hcz20_3
    try clear hfz10_0
    try clear hfz10_1
    try clear hfz10_2
    try clear hfz10_3
    try clear hfz11_0
    try clear hfz11_1
    try clear hfz11_2
    try clear hfz11_3
    try clear hfz13_0
    try clear hfz13_1
    try clear hfz13_2
    try clear hfz13_3
    try clear hfz14_0
    try clear hfz14_1
    try clear hfz14_2
    try clear hfz14_3
    try clear hfz16_0
    try clear hfz16_1
    try clear hfz16_2
    try clear hfz16_3
    try clear hfz17_0
    try clear hfz17_1
    try clear hfz17_2
    try clear hfz17_3
    try clear hfz19_0
    try clear hfz19_1
    try clear hfz19_2
    try clear hfz19_3
    try clear hfz20_0
    try clear hfz20_1
    try clear hfz20_2
    try clear hfz20_3
    try clear p2
    obtain ⟨x5_2, rfl, HA, HK2, BK356, BK357, HB⟩ := hrel
    cases gk with
    | zero => exact absurd HA.out (by simp [majordomoref07_Same.l0])
    | succ k2 =>
     have H := HA.out
     clear HA
     simp only [majordomoref07_Same.l0] at H
     by_cases c22 : x5_2 < (l0_2.length : Int)
     rotate_left
     · rw [if_neg c22] at H
       have c22b0 : decide (x5_2 < (l0_2.length : Int)) = false := decide_eq_false c22
       clear c22
       have H' := As.mk H
       clear H
       have hnb35 := NB356_357.out
       have hnc35 := NB357_356.out
       have hcz36_0 : wr.cell? ⟨gb356, 0, none⟩ = some (.int .i64 a0_0) := (kC BK356.out 0).trans rfl
       have hcz36_1 : wr.cell? ⟨gb356, 1, none⟩ = some (.string a0_1) := (kC BK356.out 1).trans rfl
       have hcz36_2 : wr.cell? ⟨gb356, 2, none⟩ = some (.slice A0_2 l0_2.length c0_2) := (kC BK356.out 2).trans rfl
       have hcz36_3 : wr.cell? ⟨gb356, 3, none⟩ = some (.slice A0_3 l0_3.length c0_3) := (kC BK356.out 3).trans rfl
       have hfz36_0 := kF BK356.out 0
       have hfz36_1 := kF BK356.out 1
       have hfz36_2 := kF BK356.out 2
       have hfz36_3 := kF BK356.out 3
       go_wp2
       go_loopg [6] k2 (fun kq v6 w' => ∃ (x6_3 : Int), v6 = .int .i64 x6_3 ∧ As (majordomoref07_Same.l1 kq x6_3 a0_0 a0_1 l0_2 l0_3 a1_0 a1_1 l1_2 l1_3 = some r) ∧ As (kq ≤ k2) ∧ As (w'.heap[gb356]? = some (.cells #[.int .i64 a0_0, .string a0_1, (.slice A0_2 l0_2.length c0_2), (.slice A0_3 l0_3.length c0_3)] 37 (0, 0))) ∧ As (w'.heap[gb357]? = some (.cells #[.int .i64 a1_0, .string a1_1, (.slice A1_2 l1_2.length c1_2), (.slice A1_3 l1_3.length c1_3)] 37 (0, 0))) ∧ As (Below w.heap.size w w'))
       case atStart => exact ⟨(0), (by first | rfl | (simp; done) | (simp [*]; done)), H', ⟨Nat.le_refl _⟩, ⟨by (with_reducible repeat (first | refine kN ?_ _ | refine kD ?_ | refine kA ?_ _)); exact BK356.out⟩, ⟨by (with_reducible repeat (first | refine kN ?_ _ | refine kD ?_ | refine kA ?_ _)); exact BK357.out⟩, ⟨by repeat (first | (with_reducible first | exact HB.out | apply bA | apply bN | apply bD | refine bS ?_ GE356.out | refine bS ?_ GE357.out) | exact HB.out)⟩⟩
       case round =>
        clear H'
        try clear c1
        try clear c2
        try clear p2
        try clear c3
        try clear p3
        try clear q3
        try clear hx3
        try clear c6
        try clear c6b0
        try clear c6b1
        try clear p6
        try clear c7
        try clear c7b0
        try clear c7b1
        try clear c8
        try clear c8b0
        try clear c8b1
        try clear c8b2
        try clear c9
        try clear c12
        try clear c13
        try clear c15
        try clear c18
        try clear c20
        try clear c21
        try clear c22
        try clear c22b0
        try clear c23
        try clear c23b0
        try clear c24
        try clear c24b0
        try clear c26
        try clear c27
        try clear c31
        try clear c35
        try clear p35
        try clear q35
        try clear hx35
        try clear hcz10_0
        try clear hcz10_1
        try clear hcz10_2
        try clear hcz10_3
        try clear hcz11_0
        try clear hcz11_1
        try clear hcz11_2
        try clear hcz11_3
        try clear hcz13_0
        try clear hcz13_1
        try clear hcz13_2
        try clear hcz13_3
        try clear hcz14_0
        try clear hcz14_1
        try clear hcz14_2
        try clear hcz14_3
        try clear hcz16_0
        try clear hcz16_1
        try clear hcz16_2
        try clear hcz16_3
        try clear hcz17_0
        try clear hcz17_1
        try clear hcz17_2
        try clear hcz17_3
        try clear hcz19_0
        try clear hcz19_1
        try clear hcz19_2
        try clear hcz19_3
        try clear hcz20_0
        try clear hcz20_1
        try clear hcz20_2
        try clear hcz20_3
        try clear hcz28_0
        try clear hcz28_1
        try clear hcz28_2
        try clear hcz28_3
        try clear hcz32_0
        try clear hcz32_1
        try clear hcz32_2
        try clear hcz32_3
        try clear hcz36_0
        try clear hcz36_1
        try clear hcz36_2
        try clear hcz36_3
        try clear hfz10_0
        try clear hfz10_1
        try clear hfz10_2
        try clear hfz10_3
        try clear hfz11_0
        try clear hfz11_1
        try clear hfz11_2
        try clear hfz11_3
        try clear hfz13_0
        try clear hfz13_1
        try clear hfz13_2
        try clear hfz13_3
        try clear hfz14_0
        try clear hfz14_1
        try clear hfz14_2
        try clear hfz14_3
        try clear hfz16_0
        try clear hfz16_1
        try clear hfz16_2
        try clear hfz16_3
        try clear hfz17_0
        try clear hfz17_1
        try clear hfz17_2
        try clear hfz17_3
        try clear hfz19_0
        try clear hfz19_1
        try clear hfz19_2
        try clear hfz19_3
        try clear hfz20_0
        try clear hfz20_1
        try clear hfz20_2
        try clear hfz20_3
        try clear hfz28_0
        try clear hfz28_1
        try clear hfz28_2
        try clear hfz28_3
        try clear hfz32_0
        try clear hfz32_1
        try clear hfz32_2
        try clear hfz32_3
        try clear hfz36_0
        try clear hfz36_1
        try clear hfz36_2
        try clear hfz36_3
        try clear hx358_0
        try clear hx358_1
        try clear hx358_2
        try clear hx359_0
        try clear hx359_1
        try clear hx359_2
        try clear p2
        try clear p358
        try clear p359
        try clear q358
        try clear q359
        obtain ⟨x6_3, rfl, HA, HK3, BK356, BK357, HB⟩ := hrel
        cases gk with
        | zero => exact absurd HA.out (by simp [majordomoref07_Same.l1])
        | succ k3 =>
         have H := HA.out
         clear HA
         simp only [majordomoref07_Same.l1] at H
         by_cases c37 : x6_3 < (l0_3.length : Int)
         rotate_left
         · rw [if_neg c37] at H
           have c37b0 : decide (x6_3 < (l0_3.length : Int)) = false := decide_eq_false c37
           clear c37
           obtain rfl := Option.some.inj H
           have hnb47 := NB356_357.out
           have hnc47 := NB357_356.out
           have hcz48_0 : wr.cell? ⟨gb356, 0, none⟩ = some (.int .i64 a0_0) := (kC BK356.out 0).trans rfl
           have hcz48_1 : wr.cell? ⟨gb356, 1, none⟩ = some (.string a0_1) := (kC BK356.out 1).trans rfl
           have hcz48_2 : wr.cell? ⟨gb356, 2, none⟩ = some (.slice A0_2 l0_2.length c0_2) := (kC BK356.out 2).trans rfl
           have hcz48_3 : wr.cell? ⟨gb356, 3, none⟩ = some (.slice A0_3 l0_3.length c0_3) := (kC BK356.out 3).trans rfl
           have hfz48_0 := kF BK356.out 0
           have hfz48_1 := kF BK356.out 1
           have hfz48_2 := kF BK356.out 2
           have hfz48_3 := kF BK356.out 3
           go_wp2
           go_ret
           exact ⟨by first | rfl | (simp [errW_none, errW_some] <;> rfl) | (simp [*, errW_none, errW_some] <;> rfl), by repeat (first | (with_reducible first | exact HB.out | apply bA | apply bN | apply bD | refine bS ?_ GE356.out | refine bS ?_ GE357.out) | exact HB.out)⟩
         rw [if_pos c37] at H
         have c37b0 : decide (x6_3 < (l0_3.length : Int)) = true := decide_eq_true c37
         clear c37
         by_cases c38 : 0 ≤ x6_3
         rotate_left
         · rw [if_neg c38] at H
           exact absurd H (by simp)
         rw [if_pos c38] at H
         have c38b0 : decide (0 ≤ x6_3) = true := decide_eq_true c38
         clear c38
         by_cases c39 : x6_3 < (l1_3.length : Int)
         rotate_left
         · rw [if_neg c39] at H
           exact absurd H (by simp)
         rw [if_pos c39] at H
         have c39b0 : decide (x6_3 < (l1_3.length : Int)) = true := decide_eq_true c39
         clear c39
         by_cases c40 : (!(((rd_T50 l0_3 x6_3).f0) == ((rd_T50 l1_3 x6_3).f0)) || (!(((rd_T50 l0_3 x6_3).f1) == ((rd_T50 l1_3 x6_3).f1)) || (!(((rd_T50 l0_3 x6_3).f2) == ((rd_T50 l1_3 x6_3).f2))))) = true
         · rw [if_pos c40] at H
           have c40b0 : (!(((rd_T50 l0_3 x6_3).f0) == ((rd_T50 l1_3 x6_3).f0)) || (!(((rd_T50 l0_3 x6_3).f1) == ((rd_T50 l1_3 x6_3).f1)) || (!(((rd_T50 l0_3 x6_3).f2) == ((rd_T50 l1_3 x6_3).f2))))) = true := c40
           clear c40
           obtain rfl := Option.some.inj H
           have hnb41 := NB356_357.out
           have hnc41 := NB357_356.out
           have hcz42_0 : wr.cell? ⟨gb356, 0, none⟩ = some (.int .i64 a0_0) := (kC BK356.out 0).trans rfl
           have hcz42_1 : wr.cell? ⟨gb356, 1, none⟩ = some (.string a0_1) := (kC BK356.out 1).trans rfl
           have hcz42_2 : wr.cell? ⟨gb356, 2, none⟩ = some (.slice A0_2 l0_2.length c0_2) := (kC BK356.out 2).trans rfl
           have hcz42_3 : wr.cell? ⟨gb356, 3, none⟩ = some (.slice A0_3 l0_3.length c0_3) := (kC BK356.out 3).trans rfl
           have hfz42_0 := kF BK356.out 0
           have hfz42_1 := kF BK356.out 1
           have hfz42_2 := kF BK356.out 2
           have hfz42_3 := kF BK356.out 3
           try go_wp2
           have n0_ := As.mk (kD BK356.out)
           have n1_ := As.mk (kD BK357.out)
           have n2_ := As.mk (bD HB.out)
           clear BK356
           clear BK357
           clear HB
           have BK356 := n0_
           have BK357 := n1_
           have HB := n2_
           clear n0_ n1_ n2_
           have p361 : 0 ≤ (x6_3 : Int) := of_decide_eq_true (by first | (with_reducible assumption) | assumption)
           have q361 : x6_3 < (l0_3.length : Int) := of_decide_eq_true (by first | (with_reducible assumption) | assumption)
           obtain ⟨ad361, e361, hx361_0, hx361_1, hx361_2⟩ := at_T50 HR0_3.out x6_3 p361 q361
           have hw361_2 := hx361_2
           have hw361_1 := hx361_1
           have hw361_0 := hx361_0
           cases e361
           replace hx361_0 := (HB.out.cell (World.block_lt_of_cell? w _ hx361_0)).trans hx361_0
           replace hx361_1 := (HB.out.cell (World.block_lt_of_cell? w _ hx361_1)).trans hx361_1
           replace hx361_2 := (HB.out.cell (World.block_lt_of_cell? w _ hx361_2)).trans hx361_2
           replace p361 := eq_true p361
           replace q361 := eq_true q361
           have p362 : 0 ≤ (x6_3 : Int) := of_decide_eq_true (by first | (with_reducible assumption) | assumption)
           have q362 : x6_3 < (l1_3.length : Int) := of_decide_eq_true (by first | (with_reducible assumption) | assumption)
           obtain ⟨ad362, e362, hx362_0, hx362_1, hx362_2⟩ := at_T50 HR1_3.out x6_3 p362 q362
           have hw362_2 := hx362_2
           have hw362_1 := hx362_1
           have hw362_0 := hx362_0
           cases e362
           replace hx362_0 := (HB.out.cell (World.block_lt_of_cell? w _ hx362_0)).trans hx362_0
           replace hx362_1 := (HB.out.cell (World.block_lt_of_cell? w _ hx362_1)).trans hx362_1
           replace hx362_2 := (HB.out.cell (World.block_lt_of_cell? w _ hx362_2)).trans hx362_2
           replace p362 := eq_true p362
           replace q362 := eq_true q362
           refine start_ (n := 11) (S := fun w' => w'.cell? ⟨gb356, 0, none⟩ = some (.int .i64 a0_0) ∧ w'.cell? ⟨gb356, 1, none⟩ = some (.string a0_1) ∧ w'.cell? ⟨gb356, 2, none⟩ = some (.slice A0_2 l0_2.length c0_2) ∧ w'.cell? ⟨gb356, 3, none⟩ = some (.slice (some ad361) l0_3.length c0_3) ∧ w'.cell? ⟨gb357, 0, none⟩ = some (.int .i64 a1_0) ∧ w'.cell? ⟨gb357, 1, none⟩ = some (.string a1_1) ∧ w'.cell? ⟨gb357, 2, none⟩ = some (.slice A1_2 l1_2.length c1_2) ∧ w'.cell? ⟨gb357, 3, none⟩ = some (.slice (some ad362) l1_3.length c1_3) ∧ w'.cell? (ad361.add ((x6_3).toNat * 3)) = some (.int .i64 ((rd_T50 l0_3 x6_3).f0)) ∧ w'.cell? ⟨(ad361.add ((x6_3).toNat * 3)).block, (ad361.add ((x6_3).toNat * 3)).off + 1, none⟩ = some (.int .i64 ((rd_T50 l0_3 x6_3).f1)) ∧ w'.cell? ⟨(ad361.add ((x6_3).toNat * 3)).block, (ad361.add ((x6_3).toNat * 3)).off + 2, none⟩ = some (.bool ((rd_T50 l0_3 x6_3).f2)) ∧ w'.cell? (ad362.add ((x6_3).toNat * 3)) = some (.int .i64 ((rd_T50 l1_3 x6_3).f0)) ∧ w'.cell? ⟨(ad362.add ((x6_3).toNat * 3)).block, (ad362.add ((x6_3).toNat * 3)).off + 1, none⟩ = some (.int .i64 ((rd_T50 l1_3 x6_3).f1)) ∧ w'.cell? ⟨(ad362.add ((x6_3).toNat * 3)).block, (ad362.add ((x6_3).toNat * 3)).off + 2, none⟩ = some (.bool ((rd_T50 l1_3 x6_3).f2))) (ds := []) (upB 11 0) (by kernel_rfl) rfl rfl ⟨(kC BK356.out 0).trans rfl, (kC BK356.out 1).trans rfl, (kC BK356.out 2).trans rfl, (kC BK356.out 3).trans rfl, (kC BK357.out 0).trans rfl, (kC BK357.out 1).trans rfl, (kC BK357.out 2).trans rfl, (kC BK357.out 3).trans rfl, ((HB.out.cell (World.block_lt_of_cell? w _ hw361_0)).trans hw361_0), ((HB.out.cell (World.block_lt_of_cell? w _ hw361_1)).trans hw361_1), ((HB.out.cell (World.block_lt_of_cell? w _ hw361_2)).trans hw361_2), ((HB.out.cell (World.block_lt_of_cell? w _ hw362_0)).trans hw362_0), ((HB.out.cell (World.block_lt_of_cell? w _ hw362_1)).trans hw362_1), ((HB.out.cell (World.block_lt_of_cell? w _ hw362_2)).trans hw362_2)⟩ (fun hHeld => ?_); refine with_tabW majordomoref07_Same.tab11 majordomoref07_Same.bits11 (fun HT_ HW_ => ?_)
           generalize wr.drew = w43 at BK356 BK357 HB hx361_0 hx361_1 hx361_2 hx362_0 hx362_1 hx362_2 hHeld ⊢
           refine sP_ 0 63 HT_ (v := ?_) (hy := ?_) (a' := ?_) (ha := ?_) (h := ?_); rotate_left; (intro w'; go_simp; with_reducible rfl); rotate_left; (simp only [Act.put, zA, zZ, zS, i64_w, i32_w]; rfl)
           refine sT_ 1 64 HT_ HW_ hHeld (v := ?_) (hy := ?_) (a' := ?_) (ha := ?_) (h := ?_); rotate_left; (rintro w' ⟨s0, s1, s2, s3, s4, s5, s6, s7, s8, s9, s10, s11, s12, s13⟩; go_simp; with_reducible rfl); rotate_left; (simp only [Act.put, zA, zZ, zS, i64_w, i32_w]; rfl)
           refine sP_ 2 65 HT_ (v := ?_) (hy := ?_) (a' := ?_) (ha := ?_) (h := ?_); rotate_left; (intro w'; go_simp; with_reducible rfl); rotate_left; (simp only [Act.put, zA, zZ, zS, i64_w, i32_w]; rfl)
           refine sP_ 3 66 HT_ (v := ?_) (hy := ?_) (a' := ?_) (ha := ?_) (h := ?_); rotate_left; (intro w'; go_simp; with_reducible rfl); rotate_left; (simp only [Act.put, zA, zZ, zS, i64_w, i32_w]; rfl)
           refine sT_ 4 67 HT_ HW_ hHeld (v := ?_) (hy := ?_) (a' := ?_) (ha := ?_) (h := ?_); rotate_left; (rintro w' ⟨s0, s1, s2, s3, s4, s5, s6, s7, s8, s9, s10, s11, s12, s13⟩; go_simp; with_reducible rfl); rotate_left; (simp only [Act.put, zA, zZ, zS, i64_w, i32_w]; rfl)
           refine sP_ 5 68 HT_ (v := ?_) (hy := ?_) (a' := ?_) (ha := ?_) (h := ?_); rotate_left; (intro w'; go_simp; with_reducible rfl); rotate_left; (simp only [Act.put, zA, zZ, zS, i64_w, i32_w]; rfl)
           refine sT_ 6 69 HT_ HW_ hHeld (v := ?_) (hy := ?_) (a' := ?_) (ha := ?_) (h := ?_); rotate_left; (rintro w' ⟨s0, s1, s2, s3, s4, s5, s6, s7, s8, s9, s10, s11, s12, s13⟩; go_simp; with_reducible rfl); rotate_left; (simp only [Act.put, zA, zZ, zS, i64_w, i32_w]; rfl)
           refine sP_ 7 70 HT_ (v := ?_) (hy := ?_) (a' := ?_) (ha := ?_) (h := ?_); rotate_left; (intro w'; go_simp; with_reducible rfl); rotate_left; (simp only [Act.put, zA, zZ, zS, i64_w, i32_w]; rfl)
           refine sP_ 8 71 HT_ (v := ?_) (hy := ?_) (a' := ?_) (ha := ?_) (h := ?_); rotate_left; (intro w'; go_simp; with_reducible rfl); rotate_left; (simp only [Act.put, zA, zZ, zS, i64_w, i32_w]; rfl)
           refine sT_ 9 72 HT_ HW_ hHeld (v := ?_) (hy := ?_) (a' := ?_) (ha := ?_) (h := ?_); rotate_left; (rintro w' ⟨s0, s1, s2, s3, s4, s5, s6, s7, s8, s9, s10, s11, s12, s13⟩; go_simp; with_reducible rfl); rotate_left; (simp only [Act.put, zA, zZ, zS, i64_w, i32_w]; rfl)
           refine sP_ 10 73 HT_ (v := ?_) (hy := ?_) (a' := ?_) (ha := ?_) (h := ?_); rotate_left; (intro w'; go_simp; with_reducible rfl); rotate_left; (simp only [Act.put, zA, zZ, zS, i64_w, i32_w]; rfl)
           refine done_ (done_of HT_.out (by kernel_rfl)) ?_
           try go_wp2
           go_ret
           exact ⟨by first | rfl | (simp [errW_none, errW_some] <;> rfl) | (simp [*, errW_none, errW_some] <;> rfl), by repeat (first | (with_reducible first | exact HB.out | apply bA | apply bN | apply bD | refine bS ?_ GE356.out | refine bS ?_ GE357.out) | exact HB.out)⟩
         rw [if_neg c40] at H
         have c40b0 : (!(((rd_T50 l0_3 x6_3).f0) == ((rd_T50 l1_3 x6_3).f0)) || (!(((rd_T50 l0_3 x6_3).f1) == ((rd_T50 l1_3 x6_3).f1)) || (!(((rd_T50 l0_3 x6_3).f2) == ((rd_T50 l1_3 x6_3).f2))))) = false := by simpa using c40
         clear c40
         have H' := As.mk H
         clear H
         have hnb44 := NB356_357.out
         have hnc44 := NB357_356.out
         have hcz45_0 : wr.cell? ⟨gb356, 0, none⟩ = some (.int .i64 a0_0) := (kC BK356.out 0).trans rfl
         have hcz45_1 : wr.cell? ⟨gb356, 1, none⟩ = some (.string a0_1) := (kC BK356.out 1).trans rfl
         have hcz45_2 : wr.cell? ⟨gb356, 2, none⟩ = some (.slice A0_2 l0_2.length c0_2) := (kC BK356.out 2).trans rfl
         have hcz45_3 : wr.cell? ⟨gb356, 3, none⟩ = some (.slice A0_3 l0_3.length c0_3) := (kC BK356.out 3).trans rfl
         have hfz45_0 := kF BK356.out 0
         have hfz45_1 := kF BK356.out 1
         have hfz45_2 := kF BK356.out 2
         have hfz45_3 := kF BK356.out 3
         try go_wp2
         have n0_ := As.mk (kD BK356.out)
         have n1_ := As.mk (kD BK357.out)
         have n2_ := As.mk (bD HB.out)
         clear BK356
         clear BK357
         clear HB
         have BK356 := n0_
         have BK357 := n1_
         have HB := n2_
         clear n0_ n1_ n2_
         have p361 : 0 ≤ (x6_3 : Int) := of_decide_eq_true (by first | (with_reducible assumption) | assumption)
         have q361 : x6_3 < (l0_3.length : Int) := of_decide_eq_true (by first | (with_reducible assumption) | assumption)
         obtain ⟨ad361, e361, hx361_0, hx361_1, hx361_2⟩ := at_T50 HR0_3.out x6_3 p361 q361
         have hw361_2 := hx361_2
         have hw361_1 := hx361_1
         have hw361_0 := hx361_0
         cases e361
         replace hx361_0 := (HB.out.cell (World.block_lt_of_cell? w _ hx361_0)).trans hx361_0
         replace hx361_1 := (HB.out.cell (World.block_lt_of_cell? w _ hx361_1)).trans hx361_1
         replace hx361_2 := (HB.out.cell (World.block_lt_of_cell? w _ hx361_2)).trans hx361_2
         replace p361 := eq_true p361
         replace q361 := eq_true q361
         have p362 : 0 ≤ (x6_3 : Int) := of_decide_eq_true (by first | (with_reducible assumption) | assumption)
         have q362 : x6_3 < (l1_3.length : Int) := of_decide_eq_true (by first | (with_reducible assumption) | assumption)
         obtain ⟨ad362, e362, hx362_0, hx362_1, hx362_2⟩ := at_T50 HR1_3.out x6_3 p362 q362
         have hw362_2 := hx362_2
         have hw362_1 := hx362_1
         have hw362_0 := hx362_0
         cases e362
         replace hx362_0 := (HB.out.cell (World.block_lt_of_cell? w _ hx362_0)).trans hx362_0
         replace hx362_1 := (HB.out.cell (World.block_lt_of_cell? w _ hx362_1)).trans hx362_1
         replace hx362_2 := (HB.out.cell (World.block_lt_of_cell? w _ hx362_2)).trans hx362_2
         replace p362 := eq_true p362
         replace q362 := eq_true q362
         refine start_ (n := 11) (S := fun w' => w'.cell? ⟨gb356, 0, none⟩ = some (.int .i64 a0_0) ∧ w'.cell? ⟨gb356, 1, none⟩ = some (.string a0_1) ∧ w'.cell? ⟨gb356, 2, none⟩ = some (.slice A0_2 l0_2.length c0_2) ∧ w'.cell? ⟨gb356, 3, none⟩ = some (.slice (some ad361) l0_3.length c0_3) ∧ w'.cell? ⟨gb357, 0, none⟩ = some (.int .i64 a1_0) ∧ w'.cell? ⟨gb357, 1, none⟩ = some (.string a1_1) ∧ w'.cell? ⟨gb357, 2, none⟩ = some (.slice A1_2 l1_2.length c1_2) ∧ w'.cell? ⟨gb357, 3, none⟩ = some (.slice (some ad362) l1_3.length c1_3) ∧ w'.cell? (ad361.add ((x6_3).toNat * 3)) = some (.int .i64 ((rd_T50 l0_3 x6_3).f0)) ∧ w'.cell? ⟨(ad361.add ((x6_3).toNat * 3)).block, (ad361.add ((x6_3).toNat * 3)).off + 1, none⟩ = some (.int .i64 ((rd_T50 l0_3 x6_3).f1)) ∧ w'.cell? ⟨(ad361.add ((x6_3).toNat * 3)).block, (ad361.add ((x6_3).toNat * 3)).off + 2, none⟩ = some (.bool ((rd_T50 l0_3 x6_3).f2)) ∧ w'.cell? (ad362.add ((x6_3).toNat * 3)) = some (.int .i64 ((rd_T50 l1_3 x6_3).f0)) ∧ w'.cell? ⟨(ad362.add ((x6_3).toNat * 3)).block, (ad362.add ((x6_3).toNat * 3)).off + 1, none⟩ = some (.int .i64 ((rd_T50 l1_3 x6_3).f1)) ∧ w'.cell? ⟨(ad362.add ((x6_3).toNat * 3)).block, (ad362.add ((x6_3).toNat * 3)).off + 2, none⟩ = some (.bool ((rd_T50 l1_3 x6_3).f2))) (ds := []) (upB 11 0) (by kernel_rfl) rfl rfl ⟨(kC BK356.out 0).trans rfl, (kC BK356.out 1).trans rfl, (kC BK356.out 2).trans rfl, (kC BK356.out 3).trans rfl, (kC BK357.out 0).trans rfl, (kC BK357.out 1).trans rfl, (kC BK357.out 2).trans rfl, (kC BK357.out 3).trans rfl, ((HB.out.cell (World.block_lt_of_cell? w _ hw361_0)).trans hw361_0), ((HB.out.cell (World.block_lt_of_cell? w _ hw361_1)).trans hw361_1), ((HB.out.cell (World.block_lt_of_cell? w _ hw361_2)).trans hw361_2), ((HB.out.cell (World.block_lt_of_cell? w _ hw362_0)).trans hw362_0), ((HB.out.cell (World.block_lt_of_cell? w _ hw362_1)).trans hw362_1), ((HB.out.cell (World.block_lt_of_cell? w _ hw362_2)).trans hw362_2)⟩ (fun hHeld => ?_); refine with_tabW majordomoref07_Same.tab11 majordomoref07_Same.bits11 (fun HT_ HW_ => ?_)
         generalize wr.drew = w46 at BK356 BK357 HB hx361_0 hx361_1 hx361_2 hx362_0 hx362_1 hx362_2 hHeld ⊢
         refine sP_ 0 63 HT_ (v := ?_) (hy := ?_) (a' := ?_) (ha := ?_) (h := ?_); rotate_left; (intro w'; go_simp; with_reducible rfl); rotate_left; (simp only [Act.put, zA, zZ, zS, i64_w, i32_w]; rfl)
         refine sT_ 1 64 HT_ HW_ hHeld (v := ?_) (hy := ?_) (a' := ?_) (ha := ?_) (h := ?_); rotate_left; (rintro w' ⟨s0, s1, s2, s3, s4, s5, s6, s7, s8, s9, s10, s11, s12, s13⟩; go_simp; with_reducible rfl); rotate_left; (simp only [Act.put, zA, zZ, zS, i64_w, i32_w]; rfl)
         refine sP_ 2 65 HT_ (v := ?_) (hy := ?_) (a' := ?_) (ha := ?_) (h := ?_); rotate_left; (intro w'; go_simp; with_reducible rfl); rotate_left; (simp only [Act.put, zA, zZ, zS, i64_w, i32_w]; rfl)
         refine sP_ 3 66 HT_ (v := ?_) (hy := ?_) (a' := ?_) (ha := ?_) (h := ?_); rotate_left; (intro w'; go_simp; with_reducible rfl); rotate_left; (simp only [Act.put, zA, zZ, zS, i64_w, i32_w]; rfl)
         refine sT_ 4 67 HT_ HW_ hHeld (v := ?_) (hy := ?_) (a' := ?_) (ha := ?_) (h := ?_); rotate_left; (rintro w' ⟨s0, s1, s2, s3, s4, s5, s6, s7, s8, s9, s10, s11, s12, s13⟩; go_simp; with_reducible rfl); rotate_left; (simp only [Act.put, zA, zZ, zS, i64_w, i32_w]; rfl)
         refine sP_ 5 68 HT_ (v := ?_) (hy := ?_) (a' := ?_) (ha := ?_) (h := ?_); rotate_left; (intro w'; go_simp; with_reducible rfl); rotate_left; (simp only [Act.put, zA, zZ, zS, i64_w, i32_w]; rfl)
         refine sT_ 6 69 HT_ HW_ hHeld (v := ?_) (hy := ?_) (a' := ?_) (ha := ?_) (h := ?_); rotate_left; (rintro w' ⟨s0, s1, s2, s3, s4, s5, s6, s7, s8, s9, s10, s11, s12, s13⟩; go_simp; with_reducible rfl); rotate_left; (simp only [Act.put, zA, zZ, zS, i64_w, i32_w]; rfl)
         refine sP_ 7 70 HT_ (v := ?_) (hy := ?_) (a' := ?_) (ha := ?_) (h := ?_); rotate_left; (intro w'; go_simp; with_reducible rfl); rotate_left; (simp only [Act.put, zA, zZ, zS, i64_w, i32_w]; rfl)
         refine sP_ 8 71 HT_ (v := ?_) (hy := ?_) (a' := ?_) (ha := ?_) (h := ?_); rotate_left; (intro w'; go_simp; with_reducible rfl); rotate_left; (simp only [Act.put, zA, zZ, zS, i64_w, i32_w]; rfl)
         refine sT_ 9 72 HT_ HW_ hHeld (v := ?_) (hy := ?_) (a' := ?_) (ha := ?_) (h := ?_); rotate_left; (rintro w' ⟨s0, s1, s2, s3, s4, s5, s6, s7, s8, s9, s10, s11, s12, s13⟩; go_simp; with_reducible rfl); rotate_left; (simp only [Act.put, zA, zZ, zS, i64_w, i32_w]; rfl)
         refine sP_ 10 73 HT_ (v := ?_) (hy := ?_) (a' := ?_) (ha := ?_) (h := ?_); rotate_left; (intro w'; go_simp; with_reducible rfl); rotate_left; (simp only [Act.put, zA, zZ, zS, i64_w, i32_w]; rfl)
         refine done_ (done_of HT_.out (by kernel_rfl)) ?_
         try go_wp2
         go_roundg k3
         case measure => have := HJ2.out; have := HK2.out; have := HK3.out; omega
         case rel => exact ⟨(wrap64 (x6_3 + 1)), (by first | rfl | (simp; done) | (simp [*]; done)), H', ⟨by have := HJ2.out; have := HK2.out; have := HK3.out; omega⟩, ⟨by (with_reducible repeat (first | refine kN ?_ _ | refine kD ?_ | refine kA ?_ _)); exact BK356.out⟩, ⟨by (with_reducible repeat (first | refine kN ?_ _ | refine kD ?_ | refine kA ?_ _)); exact BK357.out⟩, ⟨by repeat (first | (with_reducible first | exact HB.out | apply bA | apply bN | apply bD | refine bS ?_ GE356.out | refine bS ?_ GE357.out) | exact HB.out)⟩⟩
     rw [if_pos c22] at H
     have c22b0 : decide (x5_2 < (l0_2.length : Int)) = true := decide_eq_true c22
     clear c22
     by_cases c23 : 0 ≤ x5_2
     rotate_left
     · rw [if_neg c23] at H
       exact absurd H (by simp)
     rw [if_pos c23] at H
     have c23b0 : decide (0 ≤ x5_2) = true := decide_eq_true c23
     clear c23
     by_cases c24 : x5_2 < (l1_2.length : Int)
     rotate_left
     · rw [if_neg c24] at H
       exact absurd H (by simp)
     rw [if_pos c24] at H
     have c24b0 : decide (x5_2 < (l1_2.length : Int)) = true := decide_eq_true c24
     clear c24
     replace H := Option.bind_eq_some_iff.mp H
     obtain ⟨t360, A250, H⟩ := H
     replace H : (if t360 = true then (majordomoref07_Same.l0 k2 (wrap64 (x5_2 + 1)) a0_0 a0_1 l0_2 l0_3 a1_0 a1_1 l1_2 l1_3) else (some false)) = some r := H
     have A25 := As.mk A250
     clear A250
     by_cases c26 : t360 = true
     rotate_left
     · replace c26 := Bool.eq_false_iff.mpr c26
       subst c26
       have H1 : (some false) = some r := by rw [if_neg (show ¬ (false = true) by decide)] at H; exact H
       clear H
       have H := H1
       clear H1
       obtain rfl := Option.some.inj H
       have hnb31 := NB356_357.out
       have hnc31 := NB357_356.out
       have hcz32_0 : wr.cell? ⟨gb356, 0, none⟩ = some (.int .i64 a0_0) := (kC BK356.out 0).trans rfl
       have hcz32_1 : wr.cell? ⟨gb356, 1, none⟩ = some (.string a0_1) := (kC BK356.out 1).trans rfl
       have hcz32_2 : wr.cell? ⟨gb356, 2, none⟩ = some (.slice A0_2 l0_2.length c0_2) := (kC BK356.out 2).trans rfl
       have hcz32_3 : wr.cell? ⟨gb356, 3, none⟩ = some (.slice A0_3 l0_3.length c0_3) := (kC BK356.out 3).trans rfl
       have hfz32_0 := kF BK356.out 0
       have hfz32_1 := kF BK356.out 1
       have hfz32_2 := kF BK356.out 2
       have hfz32_3 := kF BK356.out 3
       try go_wp2
       have n0_ := As.mk (kD BK356.out)
       have n1_ := As.mk (kD BK357.out)
       have n2_ := As.mk (bD HB.out)
       clear BK356
       clear BK357
       clear HB
       have BK356 := n0_
       have BK357 := n1_
       have HB := n2_
       clear n0_ n1_ n2_
       have p358 : 0 ≤ (x5_2 : Int) := of_decide_eq_true (by first | (with_reducible assumption) | assumption)
       have q358 : x5_2 < (l0_2.length : Int) := of_decide_eq_true (by first | (with_reducible assumption) | assumption)
       obtain ⟨ad358, A358_2, c358_2, e358, hx358_0, hx358_1, hx358_2, hl358_2, hi358_2⟩ := at_T24 HR0_2.out x5_2 p358 q358
       have hw358_2 := hx358_2
       have hw358_1 := hx358_1
       have hw358_0 := hx358_0
       cases e358
       replace hx358_0 := (HB.out.cell (World.block_lt_of_cell? w _ hx358_0)).trans hx358_0
       replace hx358_1 := (HB.out.cell (World.block_lt_of_cell? w _ hx358_1)).trans hx358_1
       replace hx358_2 := (HB.out.cell (World.block_lt_of_cell? w _ hx358_2)).trans hx358_2
       have HR358_2 := As.mk hi358_2
       have HC358_2 := As.mk hl358_2
       clear hi358_2 hl358_2
       replace p358 := eq_true p358
       replace q358 := eq_true q358
       have p359 : 0 ≤ (x5_2 : Int) := of_decide_eq_true (by first | (with_reducible assumption) | assumption)
       have q359 : x5_2 < (l1_2.length : Int) := of_decide_eq_true (by first | (with_reducible assumption) | assumption)
       obtain ⟨ad359, A359_2, c359_2, e359, hx359_0, hx359_1, hx359_2, hl359_2, hi359_2⟩ := at_T24 HR1_2.out x5_2 p359 q359
       have hw359_2 := hx359_2
       have hw359_1 := hx359_1
       have hw359_0 := hx359_0
       cases e359
       replace hx359_0 := (HB.out.cell (World.block_lt_of_cell? w _ hx359_0)).trans hx359_0
       replace hx359_1 := (HB.out.cell (World.block_lt_of_cell? w _ hx359_1)).trans hx359_1
       replace hx359_2 := (HB.out.cell (World.block_lt_of_cell? w _ hx359_2)).trans hx359_2
       have HR359_2 := As.mk hi359_2
       have HC359_2 := As.mk hl359_2
       clear hi359_2 hl359_2
       replace p359 := eq_true p359
       replace q359 := eq_true q359
       refine start_ (n := 12) (S := fun w' => w'.cell? ⟨gb356, 0, none⟩ = some (.int .i64 a0_0) ∧ w'.cell? ⟨gb356, 1, none⟩ = some (.string a0_1) ∧ w'.cell? ⟨gb356, 2, none⟩ = some (.slice (some ad358) l0_2.length c0_2) ∧ w'.cell? ⟨gb356, 3, none⟩ = some (.slice A0_3 l0_3.length c0_3) ∧ w'.cell? ⟨gb357, 0, none⟩ = some (.int .i64 a1_0) ∧ w'.cell? ⟨gb357, 1, none⟩ = some (.string a1_1) ∧ w'.cell? ⟨gb357, 2, none⟩ = some (.slice (some ad359) l1_2.length c1_2) ∧ w'.cell? ⟨gb357, 3, none⟩ = some (.slice A1_3 l1_3.length c1_3) ∧ w'.cell? (ad358.add ((x5_2).toNat * 3)) = some (.string ((rd_T24 l0_2 x5_2).f0)) ∧ w'.cell? ⟨(ad358.add ((x5_2).toNat * 3)).block, (ad358.add ((x5_2).toNat * 3)).off + 1, none⟩ = some (.string ((rd_T24 l0_2 x5_2).f1)) ∧ w'.cell? ⟨(ad358.add ((x5_2).toNat * 3)).block, (ad358.add ((x5_2).toNat * 3)).off + 2, none⟩ = some (.slice A358_2 ((rd_T24 l0_2 x5_2).f2).length c358_2) ∧ w'.cell? (ad359.add ((x5_2).toNat * 3)) = some (.string ((rd_T24 l1_2 x5_2).f0)) ∧ w'.cell? ⟨(ad359.add ((x5_2).toNat * 3)).block, (ad359.add ((x5_2).toNat * 3)).off + 1, none⟩ = some (.string ((rd_T24 l1_2 x5_2).f1)) ∧ w'.cell? ⟨(ad359.add ((x5_2).toNat * 3)).block, (ad359.add ((x5_2).toNat * 3)).off + 2, none⟩ = some (.slice A359_2 ((rd_T24 l1_2 x5_2).f2).length c359_2)) (ds := []) (upB 12 0) (by kernel_rfl) rfl rfl ⟨(kC BK356.out 0).trans rfl, (kC BK356.out 1).trans rfl, (kC BK356.out 2).trans rfl, (kC BK356.out 3).trans rfl, (kC BK357.out 0).trans rfl, (kC BK357.out 1).trans rfl, (kC BK357.out 2).trans rfl, (kC BK357.out 3).trans rfl, ((HB.out.cell (World.block_lt_of_cell? w _ hw358_0)).trans hw358_0), ((HB.out.cell (World.block_lt_of_cell? w _ hw358_1)).trans hw358_1), ((HB.out.cell (World.block_lt_of_cell? w _ hw358_2)).trans hw358_2), ((HB.out.cell (World.block_lt_of_cell? w _ hw359_0)).trans hw359_0), ((HB.out.cell (World.block_lt_of_cell? w _ hw359_1)).trans hw359_1), ((HB.out.cell (World.block_lt_of_cell? w _ hw359_2)).trans hw359_2)⟩ (fun hHeld => ?_); refine with_tabW majordomoref07_Same.tab6 majordomoref07_Same.bits6 (fun HT_ HW_ => ?_)
       generalize wr.drew = w33 at BK356 BK357 HB HR358_2 HR359_2 hx358_0 hx358_1 hx358_2 hx359_0 hx359_1 hx359_2 hHeld ⊢
       refine sP_ 0 44 HT_ (v := ?_) (hy := ?_) (a' := ?_) (ha := ?_) (h := ?_); rotate_left; (intro w'; go_simp; with_reducible rfl); rotate_left; (simp only [Act.put, zA, zZ, zS, i64_w, i32_w]; rfl)
       refine sT_ 1 45 HT_ HW_ hHeld (v := ?_) (hy := ?_) (a' := ?_) (ha := ?_) (h := ?_); rotate_left; (rintro w' ⟨s0, s1, s2, s3, s4, s5, s6, s7, s8, s9, s10, s11, s12, s13⟩; go_simp; with_reducible rfl); rotate_left; (simp only [Act.put, zA, zZ, zS, i64_w, i32_w]; rfl)
       refine sP_ 2 46 HT_ (v := ?_) (hy := ?_) (a' := ?_) (ha := ?_) (h := ?_); rotate_left; (intro w'; go_simp; with_reducible rfl); rotate_left; (simp only [Act.put, zA, zZ, zS, i64_w, i32_w]; rfl)
       refine sP_ 3 47 HT_ (v := ?_) (hy := ?_) (a' := ?_) (ha := ?_) (h := ?_); rotate_left; (intro w'; go_simp; with_reducible rfl); rotate_left; (simp only [Act.put, zA, zZ, zS, i64_w, i32_w]; rfl)
       refine sT_ 4 48 HT_ HW_ hHeld (v := ?_) (hy := ?_) (a' := ?_) (ha := ?_) (h := ?_); rotate_left; (rintro w' ⟨s0, s1, s2, s3, s4, s5, s6, s7, s8, s9, s10, s11, s12, s13⟩; go_simp; with_reducible rfl); rotate_left; (simp only [Act.put, zA, zZ, zS, i64_w, i32_w]; rfl)
       refine sP_ 5 49 HT_ (v := ?_) (hy := ?_) (a' := ?_) (ha := ?_) (h := ?_); rotate_left; (intro w'; go_simp; with_reducible rfl); rotate_left; (simp only [Act.put, zA, zZ, zS, i64_w, i32_w]; rfl)
       refine sT_ 6 50 HT_ HW_ hHeld (v := ?_) (hy := ?_) (a' := ?_) (ha := ?_) (h := ?_); rotate_left; (rintro w' ⟨s0, s1, s2, s3, s4, s5, s6, s7, s8, s9, s10, s11, s12, s13⟩; go_simp; with_reducible rfl); rotate_left; (simp only [Act.put, zA, zZ, zS, i64_w, i32_w]; rfl)
       refine sP_ 7 51 HT_ (v := ?_) (hy := ?_) (a' := ?_) (ha := ?_) (h := ?_); rotate_left; (intro w'; go_simp; with_reducible rfl); rotate_left; (simp only [Act.put, zA, zZ, zS, i64_w, i32_w]; rfl)
       refine sP_ 8 52 HT_ (v := ?_) (hy := ?_) (a' := ?_) (ha := ?_) (h := ?_); rotate_left; (intro w'; go_simp; with_reducible rfl); rotate_left; (simp only [Act.put, zA, zZ, zS, i64_w, i32_w]; rfl)
       refine sT_ 9 53 HT_ HW_ hHeld (v := ?_) (hy := ?_) (a' := ?_) (ha := ?_) (h := ?_); rotate_left; (rintro w' ⟨s0, s1, s2, s3, s4, s5, s6, s7, s8, s9, s10, s11, s12, s13⟩; go_simp; with_reducible rfl); rotate_left; (simp only [Act.put, zA, zZ, zS, i64_w, i32_w]; rfl)
       refine one_ (i := 10) (N := some 54) (upB 12 11) rfl rfl (one_of HT_.out (by kernel_rfl)) (by decide) (fun K hK => ?_)
       refine goes_ Tryz.func13 (by kernel_rfl) rfl #[.agg #[.string ((rd_T24 l0_2 x5_2).f0), .string ((rd_T24 l0_2 x5_2).f1), .slice A358_2 ((rd_T24 l0_2 x5_2).f2).length c358_2], .agg #[.string ((rd_T24 l1_2 x5_2).f0), .string ((rd_T24 l1_2 x5_2).f1), .slice A359_2 ((rd_T24 l1_2 x5_2).f2).length c359_2]] (by rfl) rfl rfl (by (try simp only [List.map_toArray, List.map_cons, List.map_nil]); first | done | rfl | (simp only [List.length_drop, List.length_take]; rfl)) ?_
       with_reducible refine (majordomoref06_Same.calls k2 ((rd_T24 l0_2 x5_2).f0) ((rd_T24 l0_2 x5_2).f1) _ _ ((rd_T24 l0_2 x5_2).f2) ((rd_T24 l1_2 x5_2).f0) ((rd_T24 l1_2 x5_2).f1) _ _ ((rd_T24 l1_2 x5_2).f2) false _ ?side1 ?side2 ?side3 ?side4 A25.out).mono ?_
       (case side1 => repeat (first | exact (Kd.C_below HR358_2.out HB.out) | (with_reducible refine Kd.C_alloc ?_ _) | (with_reducible refine Kd.C_drewN ?_ _) | (with_reducible refine Kd.C_drew ?_)))
       (case side2 => exact HC358_2.out)
       (case side3 => repeat (first | exact (Kd.C_below HR359_2.out HB.out) | (with_reducible refine Kd.C_alloc ?_ _) | (with_reducible refine Kd.C_drewN ?_ _) | (with_reducible refine Kd.C_drew ?_)))
       (case side4 => exact HC359_2.out)
       rintro e w34 ⟨rfl, hb⟩
       refine ⟨_, rfl, ?_⟩
       have n0_ := As.mk (kB (g := gb356) (o := .cells #[.int .i64 a0_0, .string a0_1, .slice (some ad358) l0_2.length c0_2, .slice A0_3 l0_3.length c0_3] 37 (0, 0)) (by (with_reducible repeat (first | refine kN ?_ _ | refine kD ?_ | refine kA ?_ _)); exact BK356.out) hb)
       have n1_ := As.mk (kB (g := gb357) (o := .cells #[.int .i64 a1_0, .string a1_1, .slice (some ad359) l1_2.length c1_2, .slice A1_3 l1_3.length c1_3] 37 (0, 0)) (by (with_reducible repeat (first | refine kN ?_ _ | refine kD ?_ | refine kA ?_ _)); exact BK357.out) hb)
       have n2_ := As.mk (bT (by repeat (first | (with_reducible first | exact HB.out | apply bA | apply bN | apply bD | refine bS ?_ GE356.out | refine bS ?_ GE357.out) | exact HB.out)) hb)
       clear BK356
       clear BK357
       clear HB
       have BK356 := n0_
       have BK357 := n1_
       have HB := n2_
       clear n0_ n1_ n2_
       (try clear hb)
       (try clear hb2)
       (try clear hk)
       (try clear hi)
       refine hK.out _ _ ⟨(kC BK356.out 0).trans rfl, (kC BK356.out 1).trans rfl, (kC BK356.out 2).trans rfl, (kC BK356.out 3).trans rfl, (kC BK357.out 0).trans rfl, (kC BK357.out 1).trans rfl, (kC BK357.out 2).trans rfl, (kC BK357.out 3).trans rfl, ((HB.out.cell (World.block_lt_of_cell? w _ hw358_0)).trans hw358_0), ((HB.out.cell (World.block_lt_of_cell? w _ hw358_1)).trans hw358_1), ((HB.out.cell (World.block_lt_of_cell? w _ hw358_2)).trans hw358_2), ((HB.out.cell (World.block_lt_of_cell? w _ hw359_0)).trans hw359_0), ((HB.out.cell (World.block_lt_of_cell? w _ hw359_1)).trans hw359_1), ((HB.out.cell (World.block_lt_of_cell? w _ hw359_2)).trans hw359_2)⟩ (fun hHeld => ?_)
       clear hK K
       refine norm_ (a' := ?_) ?_ ?_
       rotate_left
       · show Act.put _ (some 54) _ = _
         simp only [Act.put, zA, zZ, zS, i64_w, i32_w]
         rfl
       refine sP_ 11 55 HT_ (v := ?_) (hy := ?_) (a' := ?_) (ha := ?_) (h := ?_); rotate_left; (intro w'; go_simp; with_reducible rfl); rotate_left; (simp only [Act.put, zA, zZ, zS, i64_w, i32_w]; rfl)
       refine done_ (done_of HT_.out (by kernel_rfl)) ?_
       try go_wp2
       go_ret
       exact ⟨by first | rfl | (simp [errW_none, errW_some] <;> rfl) | (simp [*, errW_none, errW_some] <;> rfl), by repeat (first | (with_reducible first | exact HB.out | apply bA | apply bN | apply bD | refine bS ?_ GE356.out | refine bS ?_ GE357.out) | exact HB.out)⟩
     subst c26
     have H1 : (majordomoref07_Same.l0 k2 (wrap64 (x5_2 + 1)) a0_0 a0_1 l0_2 l0_3 a1_0 a1_1 l1_2 l1_3) = some r := by rw [if_pos rfl] at H; exact H
     clear H
     have H := H1
     clear H1
     have H' := As.mk H
     clear H
     have hnb27 := NB356_357.out
     have hnc27 := NB357_356.out
     have hcz28_0 : wr.cell? ⟨gb356, 0, none⟩ = some (.int .i64 a0_0) := (kC BK356.out 0).trans rfl
     have hcz28_1 : wr.cell? ⟨gb356, 1, none⟩ = some (.string a0_1) := (kC BK356.out 1).trans rfl
     have hcz28_2 : wr.cell? ⟨gb356, 2, none⟩ = some (.slice A0_2 l0_2.length c0_2) := (kC BK356.out 2).trans rfl
     have hcz28_3 : wr.cell? ⟨gb356, 3, none⟩ = some (.slice A0_3 l0_3.length c0_3) := (kC BK356.out 3).trans rfl
     have hfz28_0 := kF BK356.out 0
     have hfz28_1 := kF BK356.out 1
     have hfz28_2 := kF BK356.out 2
     have hfz28_3 := kF BK356.out 3
     try go_wp2
     have n0_ := As.mk (kD BK356.out)
     have n1_ := As.mk (kD BK357.out)
     have n2_ := As.mk (bD HB.out)
     clear BK356
     clear BK357
     clear HB
     have BK356 := n0_
     have BK357 := n1_
     have HB := n2_
     clear n0_ n1_ n2_
     have p358 : 0 ≤ (x5_2 : Int) := of_decide_eq_true (by first | (with_reducible assumption) | assumption)
     have q358 : x5_2 < (l0_2.length : Int) := of_decide_eq_true (by first | (with_reducible assumption) | assumption)
     obtain ⟨ad358, A358_2, c358_2, e358, hx358_0, hx358_1, hx358_2, hl358_2, hi358_2⟩ := at_T24 HR0_2.out x5_2 p358 q358
     have hw358_2 := hx358_2
     have hw358_1 := hx358_1
     have hw358_0 := hx358_0
     cases e358
     replace hx358_0 := (HB.out.cell (World.block_lt_of_cell? w _ hx358_0)).trans hx358_0
     replace hx358_1 := (HB.out.cell (World.block_lt_of_cell? w _ hx358_1)).trans hx358_1
     replace hx358_2 := (HB.out.cell (World.block_lt_of_cell? w _ hx358_2)).trans hx358_2
     have HR358_2 := As.mk hi358_2
     have HC358_2 := As.mk hl358_2
     clear hi358_2 hl358_2
     replace p358 := eq_true p358
     replace q358 := eq_true q358
     have p359 : 0 ≤ (x5_2 : Int) := of_decide_eq_true (by first | (with_reducible assumption) | assumption)
     have q359 : x5_2 < (l1_2.length : Int) := of_decide_eq_true (by first | (with_reducible assumption) | assumption)
     obtain ⟨ad359, A359_2, c359_2, e359, hx359_0, hx359_1, hx359_2, hl359_2, hi359_2⟩ := at_T24 HR1_2.out x5_2 p359 q359
     have hw359_2 := hx359_2
     have hw359_1 := hx359_1
     have hw359_0 := hx359_0
     cases e359
     replace hx359_0 := (HB.out.cell (World.block_lt_of_cell? w _ hx359_0)).trans hx359_0
     replace hx359_1 := (HB.out.cell (World.block_lt_of_cell? w _ hx359_1)).trans hx359_1
     replace hx359_2 := (HB.out.cell (World.block_lt_of_cell? w _ hx359_2)).trans hx359_2
     have HR359_2 := As.mk hi359_2
     have HC359_2 := As.mk hl359_2
     clear hi359_2 hl359_2
     replace p359 := eq_true p359
     replace q359 := eq_true q359
     refine start_ (n := 12) (S := fun w' => w'.cell? ⟨gb356, 0, none⟩ = some (.int .i64 a0_0) ∧ w'.cell? ⟨gb356, 1, none⟩ = some (.string a0_1) ∧ w'.cell? ⟨gb356, 2, none⟩ = some (.slice (some ad358) l0_2.length c0_2) ∧ w'.cell? ⟨gb356, 3, none⟩ = some (.slice A0_3 l0_3.length c0_3) ∧ w'.cell? ⟨gb357, 0, none⟩ = some (.int .i64 a1_0) ∧ w'.cell? ⟨gb357, 1, none⟩ = some (.string a1_1) ∧ w'.cell? ⟨gb357, 2, none⟩ = some (.slice (some ad359) l1_2.length c1_2) ∧ w'.cell? ⟨gb357, 3, none⟩ = some (.slice A1_3 l1_3.length c1_3) ∧ w'.cell? (ad358.add ((x5_2).toNat * 3)) = some (.string ((rd_T24 l0_2 x5_2).f0)) ∧ w'.cell? ⟨(ad358.add ((x5_2).toNat * 3)).block, (ad358.add ((x5_2).toNat * 3)).off + 1, none⟩ = some (.string ((rd_T24 l0_2 x5_2).f1)) ∧ w'.cell? ⟨(ad358.add ((x5_2).toNat * 3)).block, (ad358.add ((x5_2).toNat * 3)).off + 2, none⟩ = some (.slice A358_2 ((rd_T24 l0_2 x5_2).f2).length c358_2) ∧ w'.cell? (ad359.add ((x5_2).toNat * 3)) = some (.string ((rd_T24 l1_2 x5_2).f0)) ∧ w'.cell? ⟨(ad359.add ((x5_2).toNat * 3)).block, (ad359.add ((x5_2).toNat * 3)).off + 1, none⟩ = some (.string ((rd_T24 l1_2 x5_2).f1)) ∧ w'.cell? ⟨(ad359.add ((x5_2).toNat * 3)).block, (ad359.add ((x5_2).toNat * 3)).off + 2, none⟩ = some (.slice A359_2 ((rd_T24 l1_2 x5_2).f2).length c359_2)) (ds := []) (upB 12 0) (by kernel_rfl) rfl rfl ⟨(kC BK356.out 0).trans rfl, (kC BK356.out 1).trans rfl, (kC BK356.out 2).trans rfl, (kC BK356.out 3).trans rfl, (kC BK357.out 0).trans rfl, (kC BK357.out 1).trans rfl, (kC BK357.out 2).trans rfl, (kC BK357.out 3).trans rfl, ((HB.out.cell (World.block_lt_of_cell? w _ hw358_0)).trans hw358_0), ((HB.out.cell (World.block_lt_of_cell? w _ hw358_1)).trans hw358_1), ((HB.out.cell (World.block_lt_of_cell? w _ hw358_2)).trans hw358_2), ((HB.out.cell (World.block_lt_of_cell? w _ hw359_0)).trans hw359_0), ((HB.out.cell (World.block_lt_of_cell? w _ hw359_1)).trans hw359_1), ((HB.out.cell (World.block_lt_of_cell? w _ hw359_2)).trans hw359_2)⟩ (fun hHeld => ?_); refine with_tabW majordomoref07_Same.tab6 majordomoref07_Same.bits6 (fun HT_ HW_ => ?_)
     generalize wr.drew = w29 at BK356 BK357 HB HR358_2 HR359_2 hx358_0 hx358_1 hx358_2 hx359_0 hx359_1 hx359_2 hHeld ⊢
     refine sP_ 0 44 HT_ (v := ?_) (hy := ?_) (a' := ?_) (ha := ?_) (h := ?_); rotate_left; (intro w'; go_simp; with_reducible rfl); rotate_left; (simp only [Act.put, zA, zZ, zS, i64_w, i32_w]; rfl)
     refine sT_ 1 45 HT_ HW_ hHeld (v := ?_) (hy := ?_) (a' := ?_) (ha := ?_) (h := ?_); rotate_left; (rintro w' ⟨s0, s1, s2, s3, s4, s5, s6, s7, s8, s9, s10, s11, s12, s13⟩; go_simp; with_reducible rfl); rotate_left; (simp only [Act.put, zA, zZ, zS, i64_w, i32_w]; rfl)
     refine sP_ 2 46 HT_ (v := ?_) (hy := ?_) (a' := ?_) (ha := ?_) (h := ?_); rotate_left; (intro w'; go_simp; with_reducible rfl); rotate_left; (simp only [Act.put, zA, zZ, zS, i64_w, i32_w]; rfl)
     refine sP_ 3 47 HT_ (v := ?_) (hy := ?_) (a' := ?_) (ha := ?_) (h := ?_); rotate_left; (intro w'; go_simp; with_reducible rfl); rotate_left; (simp only [Act.put, zA, zZ, zS, i64_w, i32_w]; rfl)
     refine sT_ 4 48 HT_ HW_ hHeld (v := ?_) (hy := ?_) (a' := ?_) (ha := ?_) (h := ?_); rotate_left; (rintro w' ⟨s0, s1, s2, s3, s4, s5, s6, s7, s8, s9, s10, s11, s12, s13⟩; go_simp; with_reducible rfl); rotate_left; (simp only [Act.put, zA, zZ, zS, i64_w, i32_w]; rfl)
     refine sP_ 5 49 HT_ (v := ?_) (hy := ?_) (a' := ?_) (ha := ?_) (h := ?_); rotate_left; (intro w'; go_simp; with_reducible rfl); rotate_left; (simp only [Act.put, zA, zZ, zS, i64_w, i32_w]; rfl)
     refine sT_ 6 50 HT_ HW_ hHeld (v := ?_) (hy := ?_) (a' := ?_) (ha := ?_) (h := ?_); rotate_left; (rintro w' ⟨s0, s1, s2, s3, s4, s5, s6, s7, s8, s9, s10, s11, s12, s13⟩; go_simp; with_reducible rfl); rotate_left; (simp only [Act.put, zA, zZ, zS, i64_w, i32_w]; rfl)
     refine sP_ 7 51 HT_ (v := ?_) (hy := ?_) (a' := ?_) (ha := ?_) (h := ?_); rotate_left; (intro w'; go_simp; with_reducible rfl); rotate_left; (simp only [Act.put, zA, zZ, zS, i64_w, i32_w]; rfl)
     refine sP_ 8 52 HT_ (v := ?_) (hy := ?_) (a' := ?_) (ha := ?_) (h := ?_); rotate_left; (intro w'; go_simp; with_reducible rfl); rotate_left; (simp only [Act.put, zA, zZ, zS, i64_w, i32_w]; rfl)
     refine sT_ 9 53 HT_ HW_ hHeld (v := ?_) (hy := ?_) (a' := ?_) (ha := ?_) (h := ?_); rotate_left; (rintro w' ⟨s0, s1, s2, s3, s4, s5, s6, s7, s8, s9, s10, s11, s12, s13⟩; go_simp; with_reducible rfl); rotate_left; (simp only [Act.put, zA, zZ, zS, i64_w, i32_w]; rfl)
     refine one_ (i := 10) (N := some 54) (upB 12 11) rfl rfl (one_of HT_.out (by kernel_rfl)) (by decide) (fun K hK => ?_)
     refine goes_ Tryz.func13 (by kernel_rfl) rfl #[.agg #[.string ((rd_T24 l0_2 x5_2).f0), .string ((rd_T24 l0_2 x5_2).f1), .slice A358_2 ((rd_T24 l0_2 x5_2).f2).length c358_2], .agg #[.string ((rd_T24 l1_2 x5_2).f0), .string ((rd_T24 l1_2 x5_2).f1), .slice A359_2 ((rd_T24 l1_2 x5_2).f2).length c359_2]] (by rfl) rfl rfl (by (try simp only [List.map_toArray, List.map_cons, List.map_nil]); first | done | rfl | (simp only [List.length_drop, List.length_take]; rfl)) ?_
     with_reducible refine (majordomoref06_Same.calls k2 ((rd_T24 l0_2 x5_2).f0) ((rd_T24 l0_2 x5_2).f1) _ _ ((rd_T24 l0_2 x5_2).f2) ((rd_T24 l1_2 x5_2).f0) ((rd_T24 l1_2 x5_2).f1) _ _ ((rd_T24 l1_2 x5_2).f2) true _ ?side1 ?side2 ?side3 ?side4 A25.out).mono ?_
     (case side1 => repeat (first | exact (Kd.C_below HR358_2.out HB.out) | (with_reducible refine Kd.C_alloc ?_ _) | (with_reducible refine Kd.C_drewN ?_ _) | (with_reducible refine Kd.C_drew ?_)))
     (case side2 => exact HC358_2.out)
     (case side3 => repeat (first | exact (Kd.C_below HR359_2.out HB.out) | (with_reducible refine Kd.C_alloc ?_ _) | (with_reducible refine Kd.C_drewN ?_ _) | (with_reducible refine Kd.C_drew ?_)))
     (case side4 => exact HC359_2.out)
     rintro e w30 ⟨rfl, hb⟩
     refine ⟨_, rfl, ?_⟩
     have n0_ := As.mk (kB (g := gb356) (o := .cells #[.int .i64 a0_0, .string a0_1, .slice (some ad358) l0_2.length c0_2, .slice A0_3 l0_3.length c0_3] 37 (0, 0)) (by (with_reducible repeat (first | refine kN ?_ _ | refine kD ?_ | refine kA ?_ _)); exact BK356.out) hb)
     have n1_ := As.mk (kB (g := gb357) (o := .cells #[.int .i64 a1_0, .string a1_1, .slice (some ad359) l1_2.length c1_2, .slice A1_3 l1_3.length c1_3] 37 (0, 0)) (by (with_reducible repeat (first | refine kN ?_ _ | refine kD ?_ | refine kA ?_ _)); exact BK357.out) hb)
     have n2_ := As.mk (bT (by repeat (first | (with_reducible first | exact HB.out | apply bA | apply bN | apply bD | refine bS ?_ GE356.out | refine bS ?_ GE357.out) | exact HB.out)) hb)
     clear BK356
     clear BK357
     clear HB
     have BK356 := n0_
     have BK357 := n1_
     have HB := n2_
     clear n0_ n1_ n2_
     (try clear hb)
     (try clear hb2)
     (try clear hk)
     (try clear hi)
     refine hK.out _ _ ⟨(kC BK356.out 0).trans rfl, (kC BK356.out 1).trans rfl, (kC BK356.out 2).trans rfl, (kC BK356.out 3).trans rfl, (kC BK357.out 0).trans rfl, (kC BK357.out 1).trans rfl, (kC BK357.out 2).trans rfl, (kC BK357.out 3).trans rfl, ((HB.out.cell (World.block_lt_of_cell? w _ hw358_0)).trans hw358_0), ((HB.out.cell (World.block_lt_of_cell? w _ hw358_1)).trans hw358_1), ((HB.out.cell (World.block_lt_of_cell? w _ hw358_2)).trans hw358_2), ((HB.out.cell (World.block_lt_of_cell? w _ hw359_0)).trans hw359_0), ((HB.out.cell (World.block_lt_of_cell? w _ hw359_1)).trans hw359_1), ((HB.out.cell (World.block_lt_of_cell? w _ hw359_2)).trans hw359_2)⟩ (fun hHeld => ?_)
     clear hK K
     refine norm_ (a' := ?_) ?_ ?_
     rotate_left
     · show Act.put _ (some 54) _ = _
       simp only [Act.put, zA, zZ, zS, i64_w, i32_w]
       rfl
     refine sP_ 11 55 HT_ (v := ?_) (hy := ?_) (a' := ?_) (ha := ?_) (h := ?_); rotate_left; (intro w'; go_simp; with_reducible rfl); rotate_left; (simp only [Act.put, zA, zZ, zS, i64_w, i32_w]; rfl)
     refine done_ (done_of HT_.out (by kernel_rfl)) ?_
     try go_wp2
     go_roundg k2
     case measure => have := HJ2.out; have := HK2.out; omega
     case rel => exact ⟨(wrap64 (x5_2 + 1)), (by first | rfl | (simp; done) | (simp [*]; done)), H', ⟨by have := HJ2.out; have := HK2.out; omega⟩, ⟨by (with_reducible repeat (first | refine kN ?_ _ | refine kD ?_ | refine kA ?_ _)); exact BK356.out⟩, ⟨by (with_reducible repeat (first | refine kN ?_ _ | refine kD ?_ | refine kA ?_ _)); exact BK357.out⟩, ⟨by repeat (first | (with_reducible first | exact HB.out | apply bA | apply bN | apply bD | refine bS ?_ GE356.out | refine bS ?_ GE357.out) | exact HB.out)⟩⟩
end Go.Proofs.YtkgafkoopefghaaGreatDoor.PA
end
