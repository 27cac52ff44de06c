/- A part of this law; its conditions stand in the last text. -/
import Derived.Test.YtkgafkoopefghaaGreatDoorCf6
import Derived.Test.YtkgafkoopefghaaGreatDoorCf9
section
namespace Go.Proofs.YtkgafkoopefghaaGreatDoor.PA
open Go.RowKit Go.Proofs.YtkgafkoopefghaaGreatDoorW.PrintWords Go.Proofs.YtkgafkoopefghaaGreatDoorW.PrintLast Go.Proofs.YtkgafkoopefghaaGreatDoorW.PrintMore
open Go.Proofs.YtkgafkoopefghaaGreatDoor.Hk
attribute [local go_sem high] Go.Proofs.YtkgafkoopefghaaGreatDoor.Hk.binOp_leq_not
attribute [local go_sem] max2_int min2_int max_two min_two max_three min_three max_four min_four
set_option linter.unusedVariables false
set_option linter.unusedSimpArgs false
attribute [local go_sem high] eqA31
def catalog_behind.f (a0_0 : Int) (a0_1 : Int) (a0_2 : Bool) (a1_0 : Int) (a1_1 : Int) (a1_2 : Bool) : Option (Bool) := if a0_0 > a1_0 then (some true) else (if a0_0 = a1_0 then (some (decide (a0_1 > a1_1))) else (some false))
set_option maxHeartbeats 8000000 in
set_option maxRecDepth 100000 in
theorem catalog_behind.calls (a0_0 : Int) (a0_1 : Int) (a0_2 : Bool) (a1_0 : Int) (a1_1 : Int) (a1_2 : Bool) (r : Bool) (w : World) (h : catalog_behind.f a0_0 a0_1 a0_2 a1_0 a1_1 a1_2 = some r) :
 Calls Tryz.prog 43 #[.agg #[.int .i64 a0_0, .int .i64 a0_1, .bool a0_2], .agg #[.int .i64 a1_0, .int .i64 a1_1, .bool a1_2]] w fun e w' => e = .returned (.bool r) ∧ Below w.heap.size w w' := by
 have hu50 := Tryz.underlying50
 have HB := As.mk (Below.refl w.heap.size w)
 have H : (if a0_0 > a1_0 then (some true) else (if a0_0 = a1_0 then (some (decide (a0_1 > a1_1))) else (some false))) = some r := h
 clear h
 by_cases c3 : a0_0 > a1_0
 · rw [if_pos c3] at H
   have c3b0 : decide (a1_0 < a0_0) = true := decide_eq_true c3
   clear c3
   obtain rfl := Option.some.inj H
   go_enter Tryz.func43, Tryz.ntmps43
   go_wp2_with (first | ((with_reducible refine gate_dst (N := 2) rfl ?_); refine box_event ?hg (N := 2) ?hd (cs := #[.int .i64 a0_0, .int .i64 a0_1, .bool a0_2]) (t := 50) ?hr ?_; (case hd => rfl); (case hg => rfl); (case hr => first | (go_simp; done) | (go_simp; rfl)); intro gb286 hg w4 hbox hb; have n0_ := As.mk (bT (by repeat (first | (with_reducible first | exact HB.out | apply bA | apply bN | apply bD) | exact HB.out)) hb); have n1_ := As.mk (hbox); have n2_ := As.mk ((by rw [hg]; exact (bZ (by repeat (first | (with_reducible first | exact HB.out | apply bA | apply bN | apply bD) | exact HB.out))) : w.heap.size ≤ gb286)); have n3_ := As.mk ((by rw [hg]; exact (bZ (by repeat (first | (with_reducible first | exact HB.out | apply bA | apply bN | apply bD) | exact HB.out))) : w.heap.size ≤ gb286)); clear HB; have HB := n0_; have BK286 := n1_; have GW286 := n2_; have GE286 := n3_; clear n0_ n1_ n2_ n3_; clear hb hbox hg) | ((with_reducible refine gate_dst (N := 3) rfl ?_); refine box_event ?hg (N := 3) ?hd (cs := #[.int .i64 a1_0, .int .i64 a1_1, .bool a1_2]) (t := 50) ?hr ?_; (case hd => rfl); (case hg => rfl); (case hr => first | (go_simp; done) | (go_simp; rfl)); intro gb287 hg w5 hbox hb; have n0_ := As.mk (kB (g := gb286) (o := .cells #[.int .i64 a0_0, .int .i64 a0_1, .bool a0_2] 50 (0, 0)) (by (with_reducible repeat (first | refine kN ?_ _ | refine kD ?_ | refine kA ?_ _)); exact BK286.out) hb); have n1_ := As.mk (bT (by repeat (first | (with_reducible first | exact HB.out | apply bA | apply bN | apply bD | refine bS ?_ GE286.out) | exact HB.out)) hb); have n2_ := As.mk (hbox); have n3_ := As.mk ((by rw [hg]; exact (bZ (by repeat (first | (with_reducible first | exact HB.out | apply bA | apply bN | apply bD | refine bS ?_ GE286.out) | exact HB.out))) : w.heap.size ≤ gb287)); have n4_ := As.mk ((by rw [hg]; exact (bZ (by repeat (first | (with_reducible first | exact HB.out | apply bA | apply bN | apply bD | refine bS ?_ GE286.out) | exact HB.out))) : w.heap.size ≤ gb287)); have n5_ := As.mk ((by rw [hg]; exact Nat.ne_of_lt (blk_lt (g := gb286) (o := .cells #[.int .i64 a0_0, .int .i64 a0_1, .bool a0_2] 50 (0, 0)) (by (with_reducible repeat (first | refine kN ?_ _ | refine kD ?_ | refine kA ?_ _)); exact BK286.out)) : gb286 ≠ gb287)); have n6_ := As.mk ((by rw [hg]; exact Nat.ne_of_gt (blk_lt (g := gb286) (o := .cells #[.int .i64 a0_0, .int .i64 a0_1, .bool a0_2] 50 (0, 0)) (by (with_reducible repeat (first | refine kN ?_ _ | refine kD ?_ | refine kA ?_ _)); exact BK286.out)) : gb287 ≠ gb286)); clear BK286; clear HB; have BK286 := n0_; have HB := n1_; have BK287 := n2_; have GW287 := n3_; have GE287 := n4_; have NB286_287 := n5_; have NB287_286 := n6_; clear n0_ n1_ n2_ n3_ n4_ n5_ n6_; clear hb hbox hg; have hnb6 := NB286_287.out; have hnc6 := NB287_286.out; have hcz7_0 : w5.cell? ⟨gb286, 0, none⟩ = some (.int .i64 a0_0) := (kC BK286.out 0).trans rfl; have hcz7_1 : w5.cell? ⟨gb286, 1, none⟩ = some (.int .i64 a0_1) := (kC BK286.out 1).trans rfl; have hcz7_2 : w5.cell? ⟨gb286, 2, none⟩ = some (.bool a0_2) := (kC BK286.out 2).trans rfl; have hfz7_0 := kF BK286.out 0; have hfz7_1 := kF BK286.out 1; have hfz7_2 := kF BK286.out 2; have hcz8_0 : w5.cell? ⟨gb287, 0, none⟩ = some (.int .i64 a1_0) := (kC BK287.out 0).trans rfl; have hcz8_1 : w5.cell? ⟨gb287, 1, none⟩ = some (.int .i64 a1_1) := (kC BK287.out 1).trans rfl; have hcz8_2 : w5.cell? ⟨gb287, 2, none⟩ = some (.bool a1_2) := (kC BK287.out 2).trans rfl; have hfz8_0 := kF BK287.out 0; have hfz8_1 := kF BK287.out 1; have hfz8_2 := kF BK287.out 2))
   go_ret
   exact ⟨by first | rfl | (simp [errW_none, errW_some] <;> rfl) | (simp [*, errW_none, errW_some] <;> rfl), by repeat (first | (with_reducible first | exact HB.out | apply bA | apply bN | apply bD | refine bS ?_ GE286.out | refine bS ?_ GE287.out) | exact HB.out)⟩
 rw [if_neg c3] at H
 have c3b0 : decide (a1_0 < a0_0) = false := decide_eq_false c3
 clear c3
 by_cases c9 : a0_0 = a1_0
 rotate_left
 · rw [if_neg c9] at H
   have c9b0 : (a0_0 == a1_0) = false := beq_eq_false_iff_ne.mpr c9
   have c9b1 : (a0_0 != a1_0) = true := bne_iff_ne.mpr c9
   obtain rfl := Option.some.inj H
   go_enter Tryz.func43, Tryz.ntmps43
   go_wp2_with (first | ((with_reducible refine gate_dst (N := 2) rfl ?_); refine box_event ?hg (N := 2) ?hd (cs := #[.int .i64 a0_0, .int .i64 a0_1, .bool a0_2]) (t := 50) ?hr ?_; (case hd => rfl); (case hg => rfl); (case hr => first | (go_simp; done) | (go_simp; rfl)); intro gb286 hg w15 hbox hb; have n0_ := As.mk (bT (by repeat (first | (with_reducible first | exact HB.out | apply bA | apply bN | apply bD) | exact HB.out)) hb); have n1_ := As.mk (hbox); have n2_ := As.mk ((by rw [hg]; exact (bZ (by repeat (first | (with_reducible first | exact HB.out | apply bA | apply bN | apply bD) | exact HB.out))) : w.heap.size ≤ gb286)); have n3_ := As.mk ((by rw [hg]; exact (bZ (by repeat (first | (with_reducible first | exact HB.out | apply bA | apply bN | apply bD) | exact HB.out))) : w.heap.size ≤ gb286)); clear HB; have HB := n0_; have BK286 := n1_; have GW286 := n2_; have GE286 := n3_; clear n0_ n1_ n2_ n3_; clear hb hbox hg) | ((with_reducible refine gate_dst (N := 3) rfl ?_); refine box_event ?hg (N := 3) ?hd (cs := #[.int .i64 a1_0, .int .i64 a1_1, .bool a1_2]) (t := 50) ?hr ?_; (case hd => rfl); (case hg => rfl); (case hr => first | (go_simp; done) | (go_simp; rfl)); intro gb287 hg w16 hbox hb; have n0_ := As.mk (kB (g := gb286) (o := .cells #[.int .i64 a0_0, .int .i64 a0_1, .bool a0_2] 50 (0, 0)) (by (with_reducible repeat (first | refine kN ?_ _ | refine kD ?_ | refine kA ?_ _)); exact BK286.out) hb); have n1_ := As.mk (bT (by repeat (first | (with_reducible first | exact HB.out | apply bA | apply bN | apply bD | refine bS ?_ GE286.out) | exact HB.out)) hb); have n2_ := As.mk (hbox); have n3_ := As.mk ((by rw [hg]; exact (bZ (by repeat (first | (with_reducible first | exact HB.out | apply bA | apply bN | apply bD | refine bS ?_ GE286.out) | exact HB.out))) : w.heap.size ≤ gb287)); have n4_ := As.mk ((by rw [hg]; exact (bZ (by repeat (first | (with_reducible first | exact HB.out | apply bA | apply bN | apply bD | refine bS ?_ GE286.out) | exact HB.out))) : w.heap.size ≤ gb287)); have n5_ := As.mk ((by rw [hg]; exact Nat.ne_of_lt (blk_lt (g := gb286) (o := .cells #[.int .i64 a0_0, .int .i64 a0_1, .bool a0_2] 50 (0, 0)) (by (with_reducible repeat (first | refine kN ?_ _ | refine kD ?_ | refine kA ?_ _)); exact BK286.out)) : gb286 ≠ gb287)); have n6_ := As.mk ((by rw [hg]; exact Nat.ne_of_gt (blk_lt (g := gb286) (o := .cells #[.int .i64 a0_0, .int .i64 a0_1, .bool a0_2] 50 (0, 0)) (by (with_reducible repeat (first | refine kN ?_ _ | refine kD ?_ | refine kA ?_ _)); exact BK286.out)) : gb287 ≠ gb286)); clear BK286; clear HB; have BK286 := n0_; have HB := n1_; have BK287 := n2_; have GW287 := n3_; have GE287 := n4_; have NB286_287 := n5_; have NB287_286 := n6_; clear n0_ n1_ n2_ n3_ n4_ n5_ n6_; clear hb hbox hg; have hnb17 := NB286_287.out; have hnc17 := NB287_286.out; have hcz18_0 : w16.cell? ⟨gb286, 0, none⟩ = some (.int .i64 a0_0) := (kC BK286.out 0).trans rfl; have hcz18_1 : w16.cell? ⟨gb286, 1, none⟩ = some (.int .i64 a0_1) := (kC BK286.out 1).trans rfl; have hcz18_2 : w16.cell? ⟨gb286, 2, none⟩ = some (.bool a0_2) := (kC BK286.out 2).trans rfl; have hfz18_0 := kF BK286.out 0; have hfz18_1 := kF BK286.out 1; have hfz18_2 := kF BK286.out 2; have hcz19_0 : w16.cell? ⟨gb287, 0, none⟩ = some (.int .i64 a1_0) := (kC BK287.out 0).trans rfl; have hcz19_1 : w16.cell? ⟨gb287, 1, none⟩ = some (.int .i64 a1_1) := (kC BK287.out 1).trans rfl; have hcz19_2 : w16.cell? ⟨gb287, 2, none⟩ = some (.bool a1_2) := (kC BK287.out 2).trans rfl; have hfz19_0 := kF BK287.out 0; have hfz19_1 := kF BK287.out 1; have hfz19_2 := kF BK287.out 2))
   go_ret
   exact ⟨by first | rfl | (simp [errW_none, errW_some] <;> rfl) | (simp [*, errW_none, errW_some] <;> rfl), by repeat (first | (with_reducible first | exact HB.out | apply bA | apply bN | apply bD | refine bS ?_ GE286.out | refine bS ?_ GE287.out) | exact HB.out)⟩
 rw [if_pos c9] at H
 have c9b0 : (a0_0 == a1_0) = true := beq_iff_eq.mpr c9
 have c9b1 : (a0_0 != a1_0) = false := bne_eq_false_iff_eq.mpr c9
 clear c9
 obtain rfl := Option.some.inj H
 go_enter Tryz.func43, Tryz.ntmps43
 go_wp2_with (first | ((with_reducible refine gate_dst (N := 2) rfl ?_); refine box_event ?hg (N := 2) ?hd (cs := #[.int .i64 a0_0, .int .i64 a0_1, .bool a0_2]) (t := 50) ?hr ?_; (case hd => rfl); (case hg => rfl); (case hr => first | (go_simp; done) | (go_simp; rfl)); intro gb286 hg w10 hbox hb; have n0_ := As.mk (bT (by repeat (first | (with_reducible first | exact HB.out | apply bA | apply bN | apply bD) | exact HB.out)) hb); have n1_ := As.mk (hbox); have n2_ := As.mk ((by rw [hg]; exact (bZ (by repeat (first | (with_reducible first | exact HB.out | apply bA | apply bN | apply bD) | exact HB.out))) : w.heap.size ≤ gb286)); have n3_ := As.mk ((by rw [hg]; exact (bZ (by repeat (first | (with_reducible first | exact HB.out | apply bA | apply bN | apply bD) | exact HB.out))) : w.heap.size ≤ gb286)); clear HB; have HB := n0_; have BK286 := n1_; have GW286 := n2_; have GE286 := n3_; clear n0_ n1_ n2_ n3_; clear hb hbox hg) | ((with_reducible refine gate_dst (N := 3) rfl ?_); refine box_event ?hg (N := 3) ?hd (cs := #[.int .i64 a1_0, .int .i64 a1_1, .bool a1_2]) (t := 50) ?hr ?_; (case hd => rfl); (case hg => rfl); (case hr => first | (go_simp; done) | (go_simp; rfl)); intro gb287 hg w11 hbox hb; have n0_ := As.mk (kB (g := gb286) (o := .cells #[.int .i64 a0_0, .int .i64 a0_1, .bool a0_2] 50 (0, 0)) (by (with_reducible repeat (first | refine kN ?_ _ | refine kD ?_ | refine kA ?_ _)); exact BK286.out) hb); have n1_ := As.mk (bT (by repeat (first | (with_reducible first | exact HB.out | apply bA | apply bN | apply bD | refine bS ?_ GE286.out) | exact HB.out)) hb); have n2_ := As.mk (hbox); have n3_ := As.mk ((by rw [hg]; exact (bZ (by repeat (first | (with_reducible first | exact HB.out | apply bA | apply bN | apply bD | refine bS ?_ GE286.out) | exact HB.out))) : w.heap.size ≤ gb287)); have n4_ := As.mk ((by rw [hg]; exact (bZ (by repeat (first | (with_reducible first | exact HB.out | apply bA | apply bN | apply bD | refine bS ?_ GE286.out) | exact HB.out))) : w.heap.size ≤ gb287)); have n5_ := As.mk ((by rw [hg]; exact Nat.ne_of_lt (blk_lt (g := gb286) (o := .cells #[.int .i64 a0_0, .int .i64 a0_1, .bool a0_2] 50 (0, 0)) (by (with_reducible repeat (first | refine kN ?_ _ | refine kD ?_ | refine kA ?_ _)); exact BK286.out)) : gb286 ≠ gb287)); have n6_ := As.mk ((by rw [hg]; exact Nat.ne_of_gt (blk_lt (g := gb286) (o := .cells #[.int .i64 a0_0, .int .i64 a0_1, .bool a0_2] 50 (0, 0)) (by (with_reducible repeat (first | refine kN ?_ _ | refine kD ?_ | refine kA ?_ _)); exact BK286.out)) : gb287 ≠ gb286)); clear BK286; clear HB; have BK286 := n0_; have HB := n1_; have BK287 := n2_; have GW287 := n3_; have GE287 := n4_; have NB286_287 := n5_; have NB287_286 := n6_; clear n0_ n1_ n2_ n3_ n4_ n5_ n6_; clear hb hbox hg; have hnb12 := NB286_287.out; have hnc12 := NB287_286.out; have hcz13_0 : w11.cell? ⟨gb286, 0, none⟩ = some (.int .i64 a0_0) := (kC BK286.out 0).trans rfl; have hcz13_1 : w11.cell? ⟨gb286, 1, none⟩ = some (.int .i64 a0_1) := (kC BK286.out 1).trans rfl; have hcz13_2 : w11.cell? ⟨gb286, 2, none⟩ = some (.bool a0_2) := (kC BK286.out 2).trans rfl; have hfz13_0 := kF BK286.out 0; have hfz13_1 := kF BK286.out 1; have hfz13_2 := kF BK286.out 2; have hcz14_0 : w11.cell? ⟨gb287, 0, none⟩ = some (.int .i64 a1_0) := (kC BK287.out 0).trans rfl; have hcz14_1 : w11.cell? ⟨gb287, 1, none⟩ = some (.int .i64 a1_1) := (kC BK287.out 1).trans rfl; have hcz14_2 : w11.cell? ⟨gb287, 2, none⟩ = some (.bool a1_2) := (kC BK287.out 2).trans rfl; have hfz14_0 := kF BK287.out 0; have hfz14_1 := kF BK287.out 1; have hfz14_2 := kF BK287.out 2))
 go_ret
 exact ⟨by first | rfl | (simp [errW_none, errW_some] <;> rfl) | (simp [*, errW_none, errW_some] <;> rfl), by repeat (first | (with_reducible first | exact HB.out | apply bA | apply bN | apply bD | refine bS ?_ GE286.out | refine bS ?_ GE287.out) | exact HB.out)⟩
def majordomoref07_Find.l0 : Nat → ByteArray → ByteArray → Int → Int → ByteArray → List (S24) → List (S50) → Option (Int)
 | 0, _, _, _, _, _, _, _ => none
 | k + 1, x1, x2, x7, x342000, x342001, x342002, x342003 => if x7 < (x342002.length : Int) then (if 0 ≤ x7 then (if ((rd_T24 x342002 x7).f0).toList = x1.toList then (if ((rd_T24 x342002 x7).f1).toList = x2.toList then (some x7) else (majordomoref07_Find.l0 k x1 x2 (wrap64 (x7 + 1)) x342000 x342001 x342002 x342003)) else (majordomoref07_Find.l0 k x1 x2 (wrap64 (x7 + 1)) x342000 x342001 x342002 x342003)) else (none)) else (some (-1))
def majordomoref07_Find.f (k : Nat) (a0_0 : Int) (a0_1 : ByteArray) (l0_2 : List (S24)) (l0_3 : List (S50)) (a1 : ByteArray) (a2 : ByteArray) : Option (Int) := majordomoref07_Find.l0 k a1 a2 0 a0_0 a0_1 l0_2 l0_3
set_option maxHeartbeats 8000000 in
set_option maxRecDepth 100000 in
theorem majordomoref07_Find.calls (k : Nat) (a0_0 : Int) (a0_1 : ByteArray) (A0_2 : Option Addr) (c0_2 : Nat) (l0_2 : List (S24)) (A0_3 : Option Addr) (c0_3 : Nat) (l0_3 : List (S50)) (a1 : ByteArray) (a2 : ByteArray) (r : Int) (w : World) (hr0_2 : Kd.C k24 w A0_2 l0_2.length l0_2) (hc0_2 : l0_2.length ≤ c0_2) (hr0_3 : Kd.C k50 w A0_3 l0_3.length l0_3) (hc0_3 : l0_3.length ≤ c0_3) (h : majordomoref07_Find.f k a0_0 a0_1 l0_2 l0_3 a1 a2 = some r) :
 Calls Tryz.prog 26 #[.agg #[.int .i64 a0_0, .string a0_1, .slice A0_2 l0_2.length c0_2, .slice A0_3 l0_3.length c0_3], .string a1, .string a2] w fun e w' => e = .returned (.int .i64 r) ∧ Below w.heap.size w w' := by
 have hu37 := Tryz.underlying37
 have HR0_2 := As.mk hr0_2
 have HC0_2 := As.mk hc0_2
 clear hr0_2 hc0_2
 have HR0_3 := As.mk hr0_3
 have HC0_3 := As.mk hc0_3
 clear hr0_3 hc0_3
 have HB := As.mk (Below.refl w.heap.size w)
 have H : (majordomoref07_Find.l0 k a1 a2 0 a0_0 a0_1 l0_2 l0_3) = some r := h
 clear h
 have H' := As.mk H
 clear H
 go_enter Tryz.func26, Tryz.ntmps26
 go_wp2_with (first | ((with_reducible refine gate_dst (N := 3) rfl ?_); refine box_event ?hg (N := 3) ?hd (cs := #[.int .i64 a0_0, .string a0_1, .slice A0_2 l0_2.length c0_2, .slice A0_3 l0_3.length c0_3]) (t := 37) ?hr ?_; (case hd => rfl); (case hg => rfl); (case hr => first | (go_simp; done) | (go_simp; rfl)); intro gb341 hg w4 hbox hb; have n0_ := As.mk (bT (by repeat (first | (with_reducible first | exact HB.out | apply bA | apply bN | apply bD) | exact HB.out)) hb); have n1_ := As.mk (hbox); have n2_ := As.mk ((by rw [hg]; exact (bZ (by repeat (first | (with_reducible first | exact HB.out | apply bA | apply bN | apply bD) | exact HB.out))) : w.heap.size ≤ gb341)); have n3_ := As.mk ((by rw [hg]; exact (bZ (by repeat (first | (with_reducible first | exact HB.out | apply bA | apply bN | apply bD) | exact HB.out))) : w.heap.size ≤ gb341)); clear HB; have HB := n0_; have BK341 := n1_; have GW341 := n2_; have GE341 := n3_; clear n0_ n1_ n2_ n3_; clear hb hbox hg))
 go_loopg [7] k (fun kq v7 w' => ∃ (x7_1 : Int), v7 = .int .i64 x7_1 ∧ As (majordomoref07_Find.l0 kq a1 a2 x7_1 a0_0 a0_1 l0_2 l0_3 = some r) ∧ As (kq ≤ k) ∧ As (w'.heap[gb341]? = some (.cells #[.int .i64 a0_0, .string a0_1, (.slice A0_2 l0_2.length c0_2), (.slice A0_3 l0_3.length c0_3)] 37 (0, 0))) ∧ As (Below w.heap.size w w'))
 case atStart => exact ⟨(0), (by first | rfl | (simp; done) | (simp [*]; done)), H', ⟨Nat.le_refl _⟩, ⟨by (with_reducible repeat (first | refine kN ?_ _ | refine kD ?_ | refine kA ?_ _)); exact BK341.out⟩, ⟨by repeat (first | (with_reducible first | exact HB.out | apply bA | apply bN | apply bD | refine bS ?_ GE341.out) | exact HB.out)⟩⟩
 case round =>
  clear H'
  try clear c2
  try clear p2
  obtain ⟨x7_1, rfl, HA, HK1, BK341, HB⟩ := hrel
  cases gk with
  | zero => exact absurd HA.out (by simp [majordomoref07_Find.l0])
  | succ k1 =>
   have H := HA.out
   clear HA
   simp only [majordomoref07_Find.l0] at H
   by_cases c5 : x7_1 < (l0_2.length : Int)
   rotate_left
   · rw [if_neg c5] at H
     have c5b0 : decide (x7_1 < (l0_2.length : Int)) = false := decide_eq_false c5
     clear c5
     obtain rfl := Option.some.inj H
     have hcz12_0 : wr.cell? ⟨gb341, 0, none⟩ = some (.int .i64 a0_0) := (kC BK341.out 0).trans rfl
     have hcz12_1 : wr.cell? ⟨gb341, 1, none⟩ = some (.string a0_1) := (kC BK341.out 1).trans rfl
     have hcz12_2 : wr.cell? ⟨gb341, 2, none⟩ = some (.slice A0_2 l0_2.length c0_2) := (kC BK341.out 2).trans rfl
     have hcz12_3 : wr.cell? ⟨gb341, 3, none⟩ = some (.slice A0_3 l0_3.length c0_3) := (kC BK341.out 3).trans rfl
     have hfz12_0 := kF BK341.out 0
     have hfz12_1 := kF BK341.out 1
     have hfz12_2 := kF BK341.out 2
     have hfz12_3 := kF BK341.out 3
     go_wp2
     go_ret
     exact ⟨by first | rfl | (simp [errW_none, errW_some] <;> rfl) | (simp [*, errW_none, errW_some] <;> rfl), by repeat (first | (with_reducible first | exact HB.out | apply bA | apply bN | apply bD | refine bS ?_ GE341.out) | exact HB.out)⟩
   rw [if_pos c5] at H
   have c5b0 : decide (x7_1 < (l0_2.length : Int)) = true := decide_eq_true c5
   clear c5
   by_cases c6 : 0 ≤ x7_1
   rotate_left
   · rw [if_neg c6] at H
     exact absurd H (by simp)
   rw [if_pos c6] at H
   have c6b0 : decide (0 ≤ x7_1) = true := decide_eq_true c6
   clear c6
   by_cases c7 : ((rd_T24 l0_2 x7_1).f0).toList = a1.toList
   rotate_left
   · rw [if_neg c7] at H
     have c7b0 : (((rd_T24 l0_2 x7_1).f0).toList == a1.toList) = false := beq_eq_false_iff_ne.mpr c7
     have c7b1 : (((rd_T24 l0_2 x7_1).f0).toList != a1.toList) = true := bne_iff_ne.mpr c7
     have H' := As.mk H
     clear H
     have hcz11_0 : wr.cell? ⟨gb341, 0, none⟩ = some (.int .i64 a0_0) := (kC BK341.out 0).trans rfl
     have hcz11_1 : wr.cell? ⟨gb341, 1, none⟩ = some (.string a0_1) := (kC BK341.out 1).trans rfl
     have hcz11_2 : wr.cell? ⟨gb341, 2, none⟩ = some (.slice A0_2 l0_2.length c0_2) := (kC BK341.out 2).trans rfl
     have hcz11_3 : wr.cell? ⟨gb341, 3, none⟩ = some (.slice A0_3 l0_3.length c0_3) := (kC BK341.out 3).trans rfl
     have hfz11_0 := kF BK341.out 0
     have hfz11_1 := kF BK341.out 1
     have hfz11_2 := kF BK341.out 2
     have hfz11_3 := kF BK341.out 3
     have p342 : 0 ≤ (x7_1 : Int) := of_decide_eq_true (by first | (with_reducible assumption) | assumption)
     have q342 : x7_1 < (l0_2.length : Int) := of_decide_eq_true (by first | (with_reducible assumption) | assumption)
     obtain ⟨ad342, A342_2, c342_2, e342, hx342_0, hx342_1, hx342_2, hl342_2, hi342_2⟩ := at_T24 HR0_2.out x7_1 p342 q342
     cases e342
     replace hx342_0 := (HB.out.cell (World.block_lt_of_cell? w _ hx342_0)).trans hx342_0
     replace hx342_1 := (HB.out.cell (World.block_lt_of_cell? w _ hx342_1)).trans hx342_1
     replace hx342_2 := (HB.out.cell (World.block_lt_of_cell? w _ hx342_2)).trans hx342_2
     have HR342_2 := As.mk hi342_2
     have HC342_2 := As.mk hl342_2
     clear hi342_2 hl342_2
     replace p342 := eq_true p342
     replace q342 := eq_true q342
     go_wp2
     go_roundg k1
     case measure => have := HK1.out; omega
     case rel => exact ⟨(wrap64 (x7_1 + 1)), (by first | rfl | (simp; done) | (simp [*]; done)), H', ⟨by have := HK1.out; omega⟩, ⟨by (with_reducible repeat (first | refine kN ?_ _ | refine kD ?_ | refine kA ?_ _)); exact BK341.out⟩, ⟨by repeat (first | (with_reducible first | exact HB.out | apply bA | apply bN | apply bD | refine bS ?_ GE341.out) | exact HB.out)⟩⟩
   rw [if_pos c7] at H
   have c7b0 : (((rd_T24 l0_2 x7_1).f0).toList == a1.toList) = true := beq_iff_eq.mpr c7
   have c7b1 : (((rd_T24 l0_2 x7_1).f0).toList != a1.toList) = false := bne_eq_false_iff_eq.mpr c7
   clear c7
   by_cases c8 : ((rd_T24 l0_2 x7_1).f1).toList = a2.toList
   · rw [if_pos c8] at H
     have c8b0 : (((rd_T24 l0_2 x7_1).f1).toList == a2.toList) = true := beq_iff_eq.mpr c8
     have c8b1 : (((rd_T24 l0_2 x7_1).f1).toList != a2.toList) = false := bne_eq_false_iff_eq.mpr c8
     clear c8
     obtain rfl := Option.some.inj H
     have hcz9_0 : wr.cell? ⟨gb341, 0, none⟩ = some (.int .i64 a0_0) := (kC BK341.out 0).trans rfl
     have hcz9_1 : wr.cell? ⟨gb341, 1, none⟩ = some (.string a0_1) := (kC BK341.out 1).trans rfl
     have hcz9_2 : wr.cell? ⟨gb341, 2, none⟩ = some (.slice A0_2 l0_2.length c0_2) := (kC BK341.out 2).trans rfl
     have hcz9_3 : wr.cell? ⟨gb341, 3, none⟩ = some (.slice A0_3 l0_3.length c0_3) := (kC BK341.out 3).trans rfl
     have hfz9_0 := kF BK341.out 0
     have hfz9_1 := kF BK341.out 1
     have hfz9_2 := kF BK341.out 2
     have hfz9_3 := kF BK341.out 3
     have p342 : 0 ≤ (x7_1 : Int) := of_decide_eq_true (by first | (with_reducible assumption) | assumption)
     have q342 : x7_1 < (l0_2.length : Int) := of_decide_eq_true (by first | (with_reducible assumption) | assumption)
     obtain ⟨ad342, A342_2, c342_2, e342, hx342_0, hx342_1, hx342_2, hl342_2, hi342_2⟩ := at_T24 HR0_2.out x7_1 p342 q342
     cases e342
     replace hx342_0 := (HB.out.cell (World.block_lt_of_cell? w _ hx342_0)).trans hx342_0
     replace hx342_1 := (HB.out.cell (World.block_lt_of_cell? w _ hx342_1)).trans hx342_1
     replace hx342_2 := (HB.out.cell (World.block_lt_of_cell? w _ hx342_2)).trans hx342_2
     have HR342_2 := As.mk hi342_2
     have HC342_2 := As.mk hl342_2
     clear hi342_2 hl342_2
     replace p342 := eq_true p342
     replace q342 := eq_true q342
     have p343 : 0 ≤ (x7_1 : Int) := of_decide_eq_true (by first | (with_reducible assumption) | assumption)
     have q343 : x7_1 < (l0_2.length : Int) := of_decide_eq_true (by first | (with_reducible assumption) | assumption)
     obtain ⟨ad343, A343_2, c343_2, e343, hx343_0, hx343_1, hx343_2, hl343_2, hi343_2⟩ := at_T24 HR0_2.out x7_1 p343 q343
     obtain rfl : ad342 = ad343 := (by injection e343)
     replace hx343_0 := (HB.out.cell (World.block_lt_of_cell? w _ hx343_0)).trans hx343_0
     replace hx343_1 := (HB.out.cell (World.block_lt_of_cell? w _ hx343_1)).trans hx343_1
     replace hx343_2 := (HB.out.cell (World.block_lt_of_cell? w _ hx343_2)).trans hx343_2
     have HR343_2 := As.mk hi343_2
     have HC343_2 := As.mk hl343_2
     clear hi343_2 hl343_2
     replace p343 := eq_true p343
     replace q343 := eq_true q343
     have ea_ := Option.some.inj (hx342_2.symm.trans hx343_2)
     injection ea_ with ea_ en_ ec_
     subst ea_
     subst ec_
     clear en_
     go_wp2
     go_ret
     exact ⟨by first | rfl | (simp [errW_none, errW_some] <;> rfl) | (simp [*, errW_none, errW_some] <;> rfl), by repeat (first | (with_reducible first | exact HB.out | apply bA | apply bN | apply bD | refine bS ?_ GE341.out) | exact HB.out)⟩
   rw [if_neg c8] at H
   have c8b0 : (((rd_T24 l0_2 x7_1).f1).toList == a2.toList) = false := beq_eq_false_iff_ne.mpr c8
   have c8b1 : (((rd_T24 l0_2 x7_1).f1).toList != a2.toList) = true := bne_iff_ne.mpr c8
   have H' := As.mk H
   clear H
   have hcz10_0 : wr.cell? ⟨gb341, 0, none⟩ = some (.int .i64 a0_0) := (kC BK341.out 0).trans rfl
   have hcz10_1 : wr.cell? ⟨gb341, 1, none⟩ = some (.string a0_1) := (kC BK341.out 1).trans rfl
   have hcz10_2 : wr.cell? ⟨gb341, 2, none⟩ = some (.slice A0_2 l0_2.length c0_2) := (kC BK341.out 2).trans rfl
   have hcz10_3 : wr.cell? ⟨gb341, 3, none⟩ = some (.slice A0_3 l0_3.length c0_3) := (kC BK341.out 3).trans rfl
   have hfz10_0 := kF BK341.out 0
   have hfz10_1 := kF BK341.out 1
   have hfz10_2 := kF BK341.out 2
   have hfz10_3 := kF BK341.out 3
   have p342 : 0 ≤ (x7_1 : Int) := of_decide_eq_true (by first | (with_reducible assumption) | assumption)
   have q342 : x7_1 < (l0_2.length : Int) := of_decide_eq_true (by first | (with_reducible assumption) | assumption)
   obtain ⟨ad342, A342_2, c342_2, e342, hx342_0, hx342_1, hx342_2, hl342_2, hi342_2⟩ := at_T24 HR0_2.out x7_1 p342 q342
   cases e342
   replace hx342_0 := (HB.out.cell (World.block_lt_of_cell? w _ hx342_0)).trans hx342_0
   replace hx342_1 := (HB.out.cell (World.block_lt_of_cell? w _ hx342_1)).trans hx342_1
   replace hx342_2 := (HB.out.cell (World.block_lt_of_cell? w _ hx342_2)).trans hx342_2
   have HR342_2 := As.mk hi342_2
   have HC342_2 := As.mk hl342_2
   clear hi342_2 hl342_2
   replace p342 := eq_true p342
   replace q342 := eq_true q342
   have p343 : 0 ≤ (x7_1 : Int) := of_decide_eq_true (by first | (with_reducible assumption) | assumption)
   have q343 : x7_1 < (l0_2.length : Int) := of_decide_eq_true (by first | (with_reducible assumption) | assumption)
   obtain ⟨ad343, A343_2, c343_2, e343, hx343_0, hx343_1, hx343_2, hl343_2, hi343_2⟩ := at_T24 HR0_2.out x7_1 p343 q343
   obtain rfl : ad342 = ad343 := (by injection e343)
   replace hx343_0 := (HB.out.cell (World.block_lt_of_cell? w _ hx343_0)).trans hx343_0
   replace hx343_1 := (HB.out.cell (World.block_lt_of_cell? w _ hx343_1)).trans hx343_1
   replace hx343_2 := (HB.out.cell (World.block_lt_of_cell? w _ hx343_2)).trans hx343_2
   have HR343_2 := As.mk hi343_2
   have HC343_2 := As.mk hl343_2
   clear hi343_2 hl343_2
   replace p343 := eq_true p343
   replace q343 := eq_true q343
   have ea_ := Option.some.inj (hx342_2.symm.trans hx343_2)
   injection ea_ with ea_ en_ ec_
   subst ea_
   subst ec_
   clear en_
   go_wp2
   go_roundg k1
   case measure => have := HK1.out; omega
   case rel => exact ⟨(wrap64 (x7_1 + 1)), (by first | rfl | (simp; done) | (simp [*]; done)), H', ⟨by have := HK1.out; omega⟩, ⟨by (with_reducible repeat (first | refine kN ?_ _ | refine kD ?_ | refine kA ?_ _)); exact BK341.out⟩, ⟨by repeat (first | (with_reducible first | exact HB.out | apply bA | apply bN | apply bD | refine bS ?_ GE341.out) | exact HB.out)⟩⟩
end Go.Proofs.YtkgafkoopefghaaGreatDoor.PA
end
