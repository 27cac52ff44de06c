/- A part of this law; its conditions stand in the last text. -/
import Derived.Test.YtkgafkoopefghaaGreatDoorRc5
import Derived.Test.YtkgafkoopefghaaGreatDoorRc11
import Derived.Test.YtkgafkoopefghaaGreatDoorRc28
import Derived.Test.YtkgafkoopefghaaGreatDoorRc30
section
namespace Go.Proofs.YtkgafkoopefghaaGreatDoor.PA
open Go.RowKit Go.Proofs.YtkgafkoopefghaaGreatDoorW.PrintWords Go.Proofs.YtkgafkoopefghaaGreatDoorW.PrintLast Go.Proofs.YtkgafkoopefghaaGreatDoorW.PrintMore
open Go.Proofs.YtkgafkoopefghaaGreatDoor.Hk
attribute [local go_sem] max2_int min2_int max_two min_two max_three min_three max_four min_four
set_option linter.unusedVariables false
set_option linter.unusedSimpArgs false
mutual
def majordomoref06_Full.j0 : Nat → ByteArray → ByteArray → ByteArray → List (S31) → Option (ByteArray × ByteArray × (List (S31)) × Int)
 | 0, _, _, _, _ => none
 | k + 1, x5, x369000, x369001, x369002 => (majordomoref06_rules.f x369000 x5).bind fun bt374 => (majordomoref06_Full.l0 k bt374.1 0 x369000 x369001 x369002 x369000 x369001 ([] : List (S31)))
def majordomoref06_Full.l0 : Nat → List (S81) → Int → ByteArray → ByteArray → List (S31) → ByteArray → ByteArray → List (S31) → Option (ByteArray × ByteArray × (List (S31)) × Int)
 | 0, _, _, _, _, _, _, _, _ => none
 | k + 1, x7, x10, x369000, x369001, x369002, x379000, x379001, x379002 => if x10 < (x7.length : Int) then (if 0 ≤ x10 then ((majordomoref06_Get.f k x369000 x369001 x369002 ((rd_T81 x7 x10).f0)).bind fun bt380 => (if bt380.2 = true then (if x379002.length < 4398046511104 then (majordomoref06_Full.l0 k x7 (wrap64 (x10 + 1)) x369000 x369001 x369002 x379000 x379001 (x379002 ++ [(⟨(rd_T81 x7 x10).f0, bt380.1⟩ : S31)])) else (none)) else (if x379002.length < 4398046511104 then (majordomoref06_Full.l0 k x7 (wrap64 (x10 + 1)) x369000 x369001 x369002 x379000 x379001 (x379002 ++ [(⟨(rd_T81 x7 x10).f0, (rd_T81 x7 x10).f1⟩ : S31)])) else (none)))) else (none)) else (some (x379000, x379001, x379002, 0))
end
def majordomoref06_Full.f (k : Nat) (a0_0 : ByteArray) (a0_1 : ByteArray) (l0_2 : List (S31)) : Option (ByteArray × ByteArray × (List (S31)) × Int) := (majordomoref06_Check.f k a0_0 a0_1 l0_2).bind fun t370 => (if t370 = 0 then ((majordomoref06_Get.f k a0_0 a0_1 l0_2 (⟨#[101, 110, 115, 117, 114, 101]⟩ : ByteArray)).bind fun bt371 => (if bt371.2 = true then (majordomoref06_Full.j0 k bt371.1 a0_0 a0_1 l0_2) else ((majordomoref06_first.f k a0_0).bind fun t373 => (majordomoref06_Full.j0 k t373 a0_0 a0_1 l0_2)))) else (some ((⟨#[]⟩ : ByteArray), (⟨#[]⟩ : ByteArray), ([] : List (S31)), t370)))
def majordomoref06_Full.T12 : Bool × List (List Nat × List Nat) := (true, [([], []), ([], []), ([], []), ([1, 2], [1, 2]), ([3], [3]), ([4], [4]), ([0, 5], [0, 5]), ([6], [6]), ([7], [7]), ([7], [7]), ([8, 6, 0, 1, 2, 3, 4, 5, 6, 7, 8], [8]), ([9, 10, 0, 1, 2, 3, 4, 5, 6, 7, 8, 9, 10], [9])])
def majordomoref06_Full.B12 : List Nat := [0, 0, 0, 6, 14, 30, 63, 127, 255, 255, 511, 2047]
theorem majordomoref06_Full.tab12 : rtab .any (opsOf Tryz.f12 12) = majordomoref06_Full.T12 := by kernel_rfl
theorem majordomoref06_Full.bits12 : waitsOk majordomoref06_Full.T12.2 majordomoref06_Full.B12 = true := by kernel_rfl
def majordomoref06_Full.T15 : Bool × List (List Nat × List Nat) := (true, [([], []), ([0], [0]), ([], []), ([], []), ([2, 3], [2, 3]), ([4], [4]), ([5], [5]), ([], []), ([6, 7], [6, 7]), ([8], [8]), ([1, 9], [1, 9]), ([0, 1, 2, 3, 4, 5, 6, 7, 8, 9, 10], []), ([11, 10, 10, 0, 1, 2, 3, 4, 5, 6, 7, 8, 9, 10], [10, 11])])
def majordomoref06_Full.B15 : List Nat := [0, 1, 0, 0, 12, 28, 60, 0, 252, 508, 1023, 2047, 4095]
theorem majordomoref06_Full.tab15 : rtab .any (opsOf Tryz.f12 15) = majordomoref06_Full.T15 := by kernel_rfl
theorem majordomoref06_Full.bits15 : waitsOk majordomoref06_Full.T15.2 majordomoref06_Full.B15 = true := by kernel_rfl
set_option maxHeartbeats 8000000 in
set_option maxRecDepth 100000 in
theorem majordomoref06_Full.calls (k : Nat) (a0_0 : ByteArray) (a0_1 : ByteArray) (A0_2 : Option Addr) (c0_2 : Nat) (l0_2 : List (S31)) (r1 : ByteArray) (r2 : ByteArray) (r3 : List (S31)) (r4 : Int) (w : World) (hr0_2 : Kd.C k31 w A0_2 l0_2.length l0_2) (hc0_2 : l0_2.length ≤ c0_2) (h : majordomoref06_Full.f k a0_0 a0_1 l0_2 = some (r1, r2, r3, r4)) :
 Calls Tryz.prog 12 #[.agg #[.string a0_0, .string a0_1, .slice A0_2 l0_2.length c0_2]] w fun e w' => ∃ v2_ : Value, e = .returned (.tuple #[.agg #[.string r1, .string r2, v2_], .int .i64 r4]) ∧ Kd.R k31 31 w' w.heap.size (fun _ => True) v2_ r3 ∧ Below w.heap.size w w' := by
 have hu24 := Tryz.underlying24
 have hu31 := Tryz.underlying31
 have HR0_2 := As.mk hr0_2
 have HC0_2 := As.mk hc0_2
 clear hr0_2 hc0_2
 have HB := As.mk (Below.refl w.heap.size w)
 have H : ((majordomoref06_Check.f k a0_0 a0_1 l0_2).bind fun t370 => (if t370 = 0 then ((majordomoref06_Get.f k a0_0 a0_1 l0_2 (⟨#[101, 110, 115, 117, 114, 101]⟩ : ByteArray)).bind fun bt371 => (if bt371.2 = true then (majordomoref06_Full.j0 k bt371.1 a0_0 a0_1 l0_2) else ((majordomoref06_first.f k a0_0).bind fun t373 => (majordomoref06_Full.j0 k t373 a0_0 a0_1 l0_2)))) else (some ((⟨#[]⟩ : ByteArray), (⟨#[]⟩ : ByteArray), ([] : List (S31)), t370)))) = some (r1, r2, r3, r4) := h
 clear h
 replace H := Option.bind_eq_some_iff.mp H
 obtain ⟨t370, A20, H⟩ := H
 replace H : (if t370 = 0 then ((majordomoref06_Get.f k a0_0 a0_1 l0_2 (⟨#[101, 110, 115, 117, 114, 101]⟩ : ByteArray)).bind fun bt371 => (if bt371.2 = true then (majordomoref06_Full.j0 k bt371.1 a0_0 a0_1 l0_2) else ((majordomoref06_first.f k a0_0).bind fun t373 => (majordomoref06_Full.j0 k t373 a0_0 a0_1 l0_2)))) else (some ((⟨#[]⟩ : ByteArray), (⟨#[]⟩ : ByteArray), ([] : List (S31)), t370))) = some (r1, r2, r3, r4) := H
 have A2 := As.mk A20
 clear A20
 by_cases c3 : t370 = 0
 rotate_left
 · rw [if_neg c3] at H
   have c3b0 : (t370 == 0) = false := beq_eq_false_iff_ne.mpr c3
   have c3b1 : (t370 != 0) = true := bne_iff_ne.mpr c3
   simp only [Option.some.injEq, Prod.mk.injEq] at H
   obtain ⟨rfl, rfl, rfl, rfl⟩ := H
   go_enter Tryz.func12, Tryz.ntmps12
   go_wp2_with (first | ((with_reducible refine gate_dst (N := 1) rfl ?_); refine box_event ?hg (N := 1) ?hd (cs := #[.string a0_0, .string a0_1, .slice A0_2 l0_2.length c0_2]) (t := 24) ?hr ?_; (case hd => rfl); (case hg => rfl); (case hr => first | (go_simp; done) | (go_simp; rfl)); intro gb368 hg w53 hbox hb; have n0_ := As.mk (bT (by repeat (first | (with_reducible first | exact HB.out | apply bA | apply bN | apply bD) | exact HB.out)) hb); have n1_ := As.mk (hbox); have n2_ := As.mk ((by rw [hg]; exact (bZ (by repeat (first | (with_reducible first | exact HB.out | apply bA | apply bN | apply bD) | exact HB.out))) : w.heap.size ≤ gb368)); have n3_ := As.mk ((by rw [hg]; exact (bZ (by repeat (first | (with_reducible first | exact HB.out | apply bA | apply bN | apply bD) | exact HB.out))) : w.heap.size ≤ gb368)); clear HB; have HB := n0_; have BK368 := n1_; have GW368 := n2_; have GE368 := n3_; clear n0_ n1_ n2_ n3_; clear hb hbox hg) | ((with_reducible refine gate_dst (N := 2) rfl ?_); refine box_event ?hg (N := 2) ?hd (cs := #[.string (⟨#[]⟩ : ByteArray), .string (⟨#[]⟩ : ByteArray), .slice none 0 0]) (t := 24) ?hr ?_; (case hd => rfl); (case hg => rfl); (case hr => first | (go_simp; done) | (go_simp; rfl)); intro gb369 hg w54 hbox hb; have n0_ := As.mk (kB (g := gb368) (o := .cells #[.string a0_0, .string a0_1, .slice A0_2 l0_2.length c0_2] 24 (0, 0)) (by (with_reducible repeat (first | refine kN ?_ _ | refine kD ?_ | refine kA ?_ _)); exact BK368.out) hb); have n1_ := As.mk (bT (by repeat (first | (with_reducible first | exact HB.out | apply bA | apply bN | apply bD | refine bS ?_ GE368.out) | exact HB.out)) hb); have n2_ := As.mk (hbox); have n3_ := As.mk ((by rw [hg]; exact (bZ (by repeat (first | (with_reducible first | exact HB.out | apply bA | apply bN | apply bD | refine bS ?_ GE368.out) | exact HB.out))) : w.heap.size ≤ gb369)); have n4_ := As.mk ((by rw [hg]; exact (bZ (by repeat (first | (with_reducible first | exact HB.out | apply bA | apply bN | apply bD | refine bS ?_ GE368.out) | exact HB.out))) : w.heap.size ≤ gb369)); have n5_ := As.mk ((by rw [hg]; exact Nat.ne_of_lt (blk_lt (g := gb368) (o := .cells #[.string a0_0, .string a0_1, .slice A0_2 l0_2.length c0_2] 24 (0, 0)) (by (with_reducible repeat (first | refine kN ?_ _ | refine kD ?_ | refine kA ?_ _)); exact BK368.out)) : gb368 ≠ gb369)); have n6_ := As.mk ((by rw [hg]; exact Nat.ne_of_gt (blk_lt (g := gb368) (o := .cells #[.string a0_0, .string a0_1, .slice A0_2 l0_2.length c0_2] 24 (0, 0)) (by (with_reducible repeat (first | refine kN ?_ _ | refine kD ?_ | refine kA ?_ _)); exact BK368.out)) : gb369 ≠ gb368)); clear BK368; clear HB; have BK368 := n0_; have HB := n1_; have BK369 := n2_; have GW369 := n3_; have GE369 := n4_; have NB368_369 := n5_; have NB369_368 := n6_; clear n0_ n1_ n2_ n3_ n4_ n5_ n6_; clear hb hbox hg; have hnb55 := NB368_369.out; have hnc55 := NB369_368.out; have hcz56_0 : w54.cell? ⟨gb368, 0, none⟩ = some (.string a0_0) := (kC BK368.out 0).trans rfl; have hcz56_1 : w54.cell? ⟨gb368, 1, none⟩ = some (.string a0_1) := (kC BK368.out 1).trans rfl; have hcz56_2 : w54.cell? ⟨gb368, 2, none⟩ = some (.slice A0_2 l0_2.length c0_2) := (kC BK368.out 2).trans rfl; have hfz56_0 := kF BK368.out 0; have hfz56_1 := kF BK368.out 1; have hfz56_2 := kF BK368.out 2) | ((with_reducible refine gate_callee (f := 15) rfl ?_); refine goesL_ (some 14) rfl rfl Tryz.func15 (by kernel_rfl) rfl #[.agg #[.string a0_0, .string a0_1, .slice A0_2 l0_2.length c0_2]] rfl (by (try simp only [List.map_toArray, List.map_cons, List.map_nil]); first | done | rfl | (simp only [List.length_drop, List.length_take]; rfl)) ?_; (with_reducible refine (majordomoref06_Check.calls k a0_0 a0_1 _ _ l0_2 t370 _ ?side1 ?side2 A2.out).mono ?_); (case side1 => repeat (first | exact (Kd.C_below HR0_2.out HB.out) | (with_reducible refine Kd.C_alloc ?_ _) | (with_reducible refine Kd.C_drewN ?_ _) | (with_reducible refine Kd.C_drew ?_))); (case side2 => exact HC0_2.out); rintro e w57 ⟨rfl, hb⟩; refine ⟨_, rfl, ?_⟩; have n0_ := As.mk (kB (g := gb368) (o := .cells #[.string a0_0, .string a0_1, .slice A0_2 l0_2.length c0_2] 24 (0, 0)) (by (with_reducible repeat (first | refine kN ?_ _ | refine kD ?_ | refine kA ?_ _)); exact BK368.out) hb); have n1_ := As.mk (kB (g := gb369) (o := .cells #[.string (⟨#[]⟩ : ByteArray), .string (⟨#[]⟩ : ByteArray), .slice none 0 0] 24 (0, 0)) (by (with_reducible repeat (first | refine kN ?_ _ | refine kD ?_ | refine kA ?_ _)); exact BK369.out) hb); have n2_ := As.mk (bT (by repeat (first | (with_reducible first | exact HB.out | apply bA | apply bN | apply bD | refine bS ?_ GE368.out | refine bS ?_ GE369.out) | exact HB.out)) hb); clear BK368; clear BK369; clear HB; have BK368 := n0_; have BK369 := n1_; have HB := n2_; clear n0_ n1_ n2_; (try clear hb); (try clear hb2); (try clear hk); (try clear hi); have hcz58_0 : w57.cell? ⟨gb369, 0, none⟩ = some (.string (⟨#[]⟩ : ByteArray)) := (kC BK369.out 0).trans rfl; have hcz58_1 : w57.cell? ⟨gb369, 1, none⟩ = some (.string (⟨#[]⟩ : ByteArray)) := (kC BK369.out 1).trans rfl; have hcz58_2 : w57.cell? ⟨gb369, 2, none⟩ = some (.slice none 0 0) := (kC BK369.out 2).trans rfl; have hfz58_0 := kF BK369.out 0; have hfz58_1 := kF BK369.out 1; have hfz58_2 := kF BK369.out 2))
   refine bodyPost_ret (results_ct rfl _ _ gb369 24 #[.string (⟨#[]⟩ : ByteArray), .string (⟨#[]⟩ : ByteArray), .slice none 0 0] (0, 0) _ rfl (by (with_reducible repeat (first | refine kN ?_ _ | refine kD ?_ | refine kA ?_ _)); refine kP (cs := #[.string (⟨#[]⟩ : ByteArray), .string (⟨#[]⟩ : ByteArray), .slice none 0 0]) ?_ 2 _ rfl; (with_reducible repeat (first | refine kN ?_ _ | refine kD ?_ | refine kA ?_ _)); refine kP (cs := #[.string (⟨#[]⟩ : ByteArray), .string (⟨#[]⟩ : ByteArray), .slice none 0 0]) ?_ 1 _ rfl; (with_reducible repeat (first | refine kN ?_ _ | refine kD ?_ | refine kA ?_ _)); refine kP (cs := #[.string (⟨#[]⟩ : ByteArray), .string (⟨#[]⟩ : ByteArray), .slice none 0 0]) ?_ 0 _ rfl; (with_reducible repeat (first | refine kN ?_ _ | refine kD ?_ | refine kA ?_ _)); exact BK369.out) Tryz.underlying24 rfl (by kernel_rfl)) rfl ?_
   exact ⟨_, by first | rfl | (simp [errW_none, errW_some] <;> rfl) | (simp [*, errW_none, errW_some] <;> rfl), by first | exact Kd.R_nil _ _ _ _ _ | exact Kd.N_nil _ _ _ _ _ | exact Kd.V_nil _ _ _ _ _ | exact Kd.Q_nil _ _ _ _ _ | exact Kd.S_nil _ _ _ _ _, by repeat (first | (with_reducible first | exact HB.out | apply bA | apply bN | apply bD | refine bS ?_ GE368.out | refine bS ?_ GE369.out) | exact HB.out)⟩
 rw [if_pos c3] at H
 have c3b0 : (t370 == 0) = true := beq_iff_eq.mpr c3
 have c3b1 : (t370 != 0) = false := bne_eq_false_iff_eq.mpr c3
 clear c3
 replace H := Option.bind_eq_some_iff.mp H
 obtain ⟨⟨t371, t372⟩, A40, H⟩ := H
 replace H : (if t372 = true then (majordomoref06_Full.j0 k t371 a0_0 a0_1 l0_2) else ((majordomoref06_first.f k a0_0).bind fun t373 => (majordomoref06_Full.j0 k t373 a0_0 a0_1 l0_2))) = some (r1, r2, r3, r4) := H
 have A4 := As.mk A40
 clear A40
 have HC5 := As.mk H
 clear H
 go_enter Tryz.func12, Tryz.ntmps12
 go_upto_if 25 with (first | ((with_reducible refine gate_dst (N := 1) rfl ?_); refine box_event ?hg (N := 1) ?hd (cs := #[.string a0_0, .string a0_1, .slice A0_2 l0_2.length c0_2]) (t := 24) ?hr ?_; (case hd => rfl); (case hg => rfl); (case hr => first | (go_simp; done) | (go_simp; rfl)); intro gb368 hg w6 hbox hb; have n0_ := As.mk (bT (by repeat (first | (with_reducible first | exact HB.out | apply bA | apply bN | apply bD) | exact HB.out)) hb); have n1_ := As.mk (hbox); have n2_ := As.mk ((by rw [hg]; exact (bZ (by repeat (first | (with_reducible first | exact HB.out | apply bA | apply bN | apply bD) | exact HB.out))) : w.heap.size ≤ gb368)); have n3_ := As.mk ((by rw [hg]; exact (bZ (by repeat (first | (with_reducible first | exact HB.out | apply bA | apply bN | apply bD) | exact HB.out))) : w.heap.size ≤ gb368)); clear HB; have HB := n0_; have BK368 := n1_; have GW368 := n2_; have GE368 := n3_; clear n0_ n1_ n2_ n3_; clear hb hbox hg) | ((with_reducible refine gate_dst (N := 2) rfl ?_); refine box_event ?hg (N := 2) ?hd (cs := #[.string (⟨#[]⟩ : ByteArray), .string (⟨#[]⟩ : ByteArray), .slice none 0 0]) (t := 24) ?hr ?_; (case hd => rfl); (case hg => rfl); (case hr => first | (go_simp; done) | (go_simp; rfl)); intro gb369 hg w7 hbox hb; have n0_ := As.mk (kB (g := gb368) (o := .cells #[.string a0_0, .string a0_1, .slice A0_2 l0_2.length c0_2] 24 (0, 0)) (by (with_reducible repeat (first | refine kN ?_ _ | refine kD ?_ | refine kA ?_ _)); exact BK368.out) hb); have n1_ := As.mk (bT (by repeat (first | (with_reducible first | exact HB.out | apply bA | apply bN | apply bD | refine bS ?_ GE368.out) | exact HB.out)) hb); have n2_ := As.mk (hbox); have n3_ := As.mk ((by rw [hg]; exact (bZ (by repeat (first | (with_reducible first | exact HB.out | apply bA | apply bN | apply bD | refine bS ?_ GE368.out) | exact HB.out))) : w.heap.size ≤ gb369)); have n4_ := As.mk ((by rw [hg]; exact (bZ (by repeat (first | (with_reducible first | exact HB.out | apply bA | apply bN | apply bD | refine bS ?_ GE368.out) | exact HB.out))) : w.heap.size ≤ gb369)); have n5_ := As.mk ((by rw [hg]; exact Nat.ne_of_lt (blk_lt (g := gb368) (o := .cells #[.string a0_0, .string a0_1, .slice A0_2 l0_2.length c0_2] 24 (0, 0)) (by (with_reducible repeat (first | refine kN ?_ _ | refine kD ?_ | refine kA ?_ _)); exact BK368.out)) : gb368 ≠ gb369)); have n6_ := As.mk ((by rw [hg]; exact Nat.ne_of_gt (blk_lt (g := gb368) (o := .cells #[.string a0_0, .string a0_1, .slice A0_2 l0_2.length c0_2] 24 (0, 0)) (by (with_reducible repeat (first | refine kN ?_ _ | refine kD ?_ | refine kA ?_ _)); exact BK368.out)) : gb369 ≠ gb368)); clear BK368; clear HB; have BK368 := n0_; have HB := n1_; have BK369 := n2_; have GW369 := n3_; have GE369 := n4_; have NB368_369 := n5_; have NB369_368 := n6_; clear n0_ n1_ n2_ n3_ n4_ n5_ n6_; clear hb hbox hg; have hnb8 := NB368_369.out; have hnc8 := NB369_368.out; have hcz9_0 : w7.cell? ⟨gb368, 0, none⟩ = some (.string a0_0) := (kC BK368.out 0).trans rfl; have hcz9_1 : w7.cell? ⟨gb368, 1, none⟩ = some (.string a0_1) := (kC BK368.out 1).trans rfl; have hcz9_2 : w7.cell? ⟨gb368, 2, none⟩ = some (.slice A0_2 l0_2.length c0_2) := (kC BK368.out 2).trans rfl; have hfz9_0 := kF BK368.out 0; have hfz9_1 := kF BK368.out 1; have hfz9_2 := kF BK368.out 2) | ((with_reducible refine gate_callee (f := 15) rfl ?_); refine goesL_ (some 14) rfl rfl Tryz.func15 (by kernel_rfl) rfl #[.agg #[.string a0_0, .string a0_1, .slice A0_2 l0_2.length c0_2]] rfl (by (try simp only [List.map_toArray, List.map_cons, List.map_nil]); first | done | rfl | (simp only [List.length_drop, List.length_take]; rfl)) ?_; (with_reducible refine (majordomoref06_Check.calls k a0_0 a0_1 _ _ l0_2 t370 _ ?side1 ?side2 A2.out).mono ?_); (case side1 => repeat (first | exact (Kd.C_below HR0_2.out HB.out) | (with_reducible refine Kd.C_alloc ?_ _) | (with_reducible refine Kd.C_drewN ?_ _) | (with_reducible refine Kd.C_drew ?_))); (case side2 => exact HC0_2.out); rintro e w10 ⟨rfl, hb⟩; refine ⟨_, rfl, ?_⟩; have n0_ := As.mk (kB (g := gb368) (o := .cells #[.string a0_0, .string a0_1, .slice A0_2 l0_2.length c0_2] 24 (0, 0)) (by (with_reducible repeat (first | refine kN ?_ _ | refine kD ?_ | refine kA ?_ _)); exact BK368.out) hb); have n1_ := As.mk (kB (g := gb369) (o := .cells #[.string (⟨#[]⟩ : ByteArray), .string (⟨#[]⟩ : ByteArray), .slice none 0 0] 24 (0, 0)) (by (with_reducible repeat (first | refine kN ?_ _ | refine kD ?_ | refine kA ?_ _)); exact BK369.out) hb); have n2_ := As.mk (bT (by repeat (first | (with_reducible first | exact HB.out | apply bA | apply bN | apply bD | refine bS ?_ GE368.out | refine bS ?_ GE369.out) | exact HB.out)) hb); clear BK368; clear BK369; clear HB; have BK368 := n0_; have BK369 := n1_; have HB := n2_; clear n0_ n1_ n2_; (try clear hb); (try clear hb2); (try clear hk); (try clear hi); have hcz11_0 : w10.cell? ⟨gb368, 0, none⟩ = some (.string a0_0) := (kC BK368.out 0).trans rfl; have hcz11_1 : w10.cell? ⟨gb368, 1, none⟩ = some (.string a0_1) := (kC BK368.out 1).trans rfl; have hcz11_2 : w10.cell? ⟨gb368, 2, none⟩ = some (.slice A0_2 l0_2.length c0_2) := (kC BK368.out 2).trans rfl; have hfz11_0 := kF BK368.out 0; have hfz11_1 := kF BK368.out 1; have hfz11_2 := kF BK368.out 2) | ((with_reducible refine gate_callee (f := 32) rfl ?_); refine goesL_ (some 21) rfl rfl Tryz.func32 (by kernel_rfl) rfl #[.agg #[.string a0_0, .string a0_1, .slice A0_2 l0_2.length c0_2], .string (⟨#[101, 110, 115, 117, 114, 101]⟩ : ByteArray)] rfl (by (try simp only [List.map_toArray, List.map_cons, List.map_nil]); first | done | rfl | (simp only [List.length_drop, List.length_take]; rfl)) ?_; (with_reducible refine (majordomoref06_Get.calls k a0_0 a0_1 _ _ l0_2 (⟨#[101, 110, 115, 117, 114, 101]⟩ : ByteArray) t371 t372 _ ?side1 ?side2 A4.out).mono ?_); (case side1 => repeat (first | exact (Kd.C_below HR0_2.out HB.out) | (with_reducible refine Kd.C_alloc ?_ _) | (with_reducible refine Kd.C_drewN ?_ _) | (with_reducible refine Kd.C_drew ?_))); (case side2 => exact HC0_2.out); rintro e w12 ⟨rfl, hb⟩; refine ⟨_, rfl, ?_⟩; have n0_ := As.mk (kB (g := gb368) (o := .cells #[.string a0_0, .string a0_1, .slice A0_2 l0_2.length c0_2] 24 (0, 0)) (by (with_reducible repeat (first | refine kN ?_ _ | refine kD ?_ | refine kA ?_ _)); exact BK368.out) hb); have n1_ := As.mk (kB (g := gb369) (o := .cells #[.string (⟨#[]⟩ : ByteArray), .string (⟨#[]⟩ : ByteArray), .slice none 0 0] 24 (0, 0)) (by (with_reducible repeat (first | refine kN ?_ _ | refine kD ?_ | refine kA ?_ _)); exact BK369.out) hb); have n2_ := As.mk (bT (by repeat (first | (with_reducible first | exact HB.out | apply bA | apply bN | apply bD | refine bS ?_ GE368.out | refine bS ?_ GE369.out) | exact HB.out)) hb); clear BK368; clear BK369; clear HB; have BK368 := n0_; have BK369 := n1_; have HB := n2_; clear n0_ n1_ n2_; (try clear hb); (try clear hb2); (try clear hk); (try clear hi)))
 (try simp only [Act.put, zA, zZ, zS])
 go_cut [5] (fun v5 wc => ∃ (kq : Nat) (x5_4 : ByteArray), v5 = .string x5_4 ∧ As (majordomoref06_Full.j0 kq x5_4 a0_0 a0_1 l0_2 = some (r1, r2, r3, r4)) ∧ As (kq ≤ k) ∧ As (wc.heap[gb368]? = some (.cells #[.string a0_0, .string a0_1, (.slice A0_2 l0_2.length c0_2)] 24 (0, 0))) ∧ As (wc.heap[gb369]? = some (.cells #[.string (⟨#[]⟩ : ByteArray), .string (⟨#[]⟩ : ByteArray), (.slice none 0 0)] 24 (0, 0))) ∧ As (Below w.heap.size w wc))
 case first =>
  have H := HC5.out
  clear HC5
  by_cases c13 : t372 = true
  · subst c13
    have H1 : (majordomoref06_Full.j0 k t371 a0_0 a0_1 l0_2) = some (r1, r2, r3, r4) := by rw [if_pos rfl] at H; exact H
    clear H
    have H := H1
    clear H1
    have H' := As.mk H
    clear H
    go_wp2
    go_meet
    case rel => exact ⟨_, (t371), (by first | rfl | (simp; done) | (simp [*]; done)), H', ⟨by first | omega | exact Nat.le_refl _⟩, ⟨by (with_reducible repeat (first | refine kN ?_ _ | refine kD ?_ | refine kA ?_ _)); exact BK368.out⟩, ⟨by (with_reducible repeat (first | refine kN ?_ _ | refine kD ?_ | refine kA ?_ _)); exact BK369.out⟩, ⟨by repeat (first | (with_reducible first | exact HB.out | apply bA | apply bN | apply bD | refine bS ?_ GE368.out | refine bS ?_ GE369.out) | exact HB.out)⟩⟩
  replace c13 := Bool.eq_false_iff.mpr c13
  subst c13
  have H1 : ((majordomoref06_first.f k a0_0).bind fun t373 => (majordomoref06_Full.j0 k t373 a0_0 a0_1 l0_2)) = some (r1, r2, r3, r4) := by rw [if_neg (show ¬ (false = true) by decide)] at H; exact H
  clear H
  have H := H1
  clear H1
  replace H := Option.bind_eq_some_iff.mp H
  obtain ⟨t373, A140, H⟩ := H
  replace H : (majordomoref06_Full.j0 k t373 a0_0 a0_1 l0_2) = some (r1, r2, r3, r4) := H
  have A14 := As.mk A140
  clear A140
  have H' := As.mk H
  clear H
  have hnb15 := NB368_369.out
  have hnc15 := NB369_368.out
  have hcz16_0 : w12.cell? ⟨gb368, 0, none⟩ = some (.string a0_0) := (kC BK368.out 0).trans rfl
  have hcz16_1 : w12.cell? ⟨gb368, 1, none⟩ = some (.string a0_1) := (kC BK368.out 1).trans rfl
  have hcz16_2 : w12.cell? ⟨gb368, 2, none⟩ = some (.slice A0_2 l0_2.length c0_2) := (kC BK368.out 2).trans rfl
  have hfz16_0 := kF BK368.out 0
  have hfz16_1 := kF BK368.out 1
  have hfz16_2 := kF BK368.out 2
  go_wp2_with (first | ((with_reducible refine gate_callee (f := 33) rfl ?_); refine goesL_ (some 28) rfl rfl Tryz.func33 (by kernel_rfl) rfl #[.string a0_0] rfl (by (try simp only [List.map_toArray, List.map_cons, List.map_nil]); first | done | rfl | (simp only [List.length_drop, List.length_take]; rfl)) ?_; (with_reducible refine (majordomoref06_first.calls k a0_0 t373 _ A14.out).mono ?_); rintro e w' ⟨rfl, ⟨nd, rfl⟩⟩; refine ⟨_, rfl, ?_⟩))
  go_meet
  case rel => exact ⟨_, (t373), (by first | rfl | (simp; done) | (simp [*]; done)), H', ⟨by first | omega | exact Nat.le_refl _⟩, ⟨by (with_reducible repeat (first | refine kN ?_ _ | refine kD ?_ | refine kA ?_ _)); exact BK368.out⟩, ⟨by (with_reducible repeat (first | refine kN ?_ _ | refine kD ?_ | refine kA ?_ _)); exact BK369.out⟩, ⟨by repeat (first | (with_reducible first | exact HB.out | apply bA | apply bN | apply bD | refine bS ?_ GE368.out | refine bS ?_ GE369.out) | exact HB.out)⟩⟩
 case rest =>
  clear HC5
  try clear c1
  try clear p2
  try clear c3
  try clear c3b0
  try clear c3b1
  try clear c8
  try clear c12
  try clear c13
  try clear c15
  try clear hcz11_0
  try clear hcz11_1
  try clear hcz11_2
  try clear hcz16_0
  try clear hcz16_1
  try clear hcz16_2
  try clear hcz9_0
  try clear hcz9_1
  try clear hcz9_2
  try clear hfz11_0
  try clear hfz11_1
  try clear hfz11_2
  try clear hfz16_0
  try clear hfz16_1
  try clear hfz16_2
  try clear hfz9_0
  try clear hfz9_1
  try clear hfz9_2
  obtain ⟨kq, x5_4, rfl, HA, HJ4, BK368, BK369, HB⟩ := hcut
  cases kq with
  | zero => exact absurd HA.out (by simp [majordomoref06_Full.j0])
  | succ kj4 =>
   have H := HA.out
   clear HA
   simp only [majordomoref06_Full.j0] at H
   replace H := Option.bind_eq_some_iff.mp H
   obtain ⟨⟨t374, t375⟩, A170, H⟩ := H
   replace H : (majordomoref06_Full.l0 kj4 t374 0 a0_0 a0_1 l0_2 a0_0 a0_1 ([] : List (S31))) = some (r1, r2, r3, r4) := H
   have A17 := As.mk A170
   clear A170
   have H' := As.mk H
   clear H
   have hnb18 := NB368_369.out
   have hnc18 := NB369_368.out
   have hcz19_0 : wc.cell? ⟨gb368, 0, none⟩ = some (.string a0_0) := (kC BK368.out 0).trans rfl
   have hcz19_1 : wc.cell? ⟨gb368, 1, none⟩ = some (.string a0_1) := (kC BK368.out 1).trans rfl
   have hcz19_2 : wc.cell? ⟨gb368, 2, none⟩ = some (.slice A0_2 l0_2.length c0_2) := (kC BK368.out 2).trans rfl
   have hfz19_0 := kF BK368.out 0
   have hfz19_1 := kF BK368.out 1
   have hfz19_2 := kF BK368.out 2
   go_wp2_with (first | ((with_reducible refine gate_callee (f := 34) rfl ?_); refine goesL_ (some 33) rfl rfl Tryz.func34 (by kernel_rfl) rfl #[.string a0_0, .string x5_4] rfl (by (try simp only [List.map_toArray, List.map_cons, List.map_nil]); first | done | rfl | (simp only [List.length_drop, List.length_take]; rfl)) ?_; (with_reducible refine (majordomoref06_rules.calls a0_0 x5_4 t374 t375 _ A17.out).mono ?_); rintro e w20 ⟨v376, rfl, ho0, hb⟩; refine ⟨_, rfl, ?_⟩; have n0_ := As.mk (Kd.R_lower ho0 (bZ (by repeat (first | (with_reducible first | exact HB.out | apply bA | apply bN | apply bD | refine bS ?_ GE368.out | refine bS ?_ GE369.out) | exact HB.out)))); have n1_ := As.mk (kB (g := gb368) (o := .cells #[.string a0_0, .string a0_1, .slice A0_2 l0_2.length c0_2] 24 (0, 0)) (by (with_reducible repeat (first | refine kN ?_ _ | refine kD ?_ | refine kA ?_ _)); exact BK368.out) hb); have n2_ := As.mk (kB (g := gb369) (o := .cells #[.string (⟨#[]⟩ : ByteArray), .string (⟨#[]⟩ : ByteArray), .slice none 0 0] 24 (0, 0)) (by (with_reducible repeat (first | refine kN ?_ _ | refine kD ?_ | refine kA ?_ _)); exact BK369.out) hb); have n3_ := As.mk (bT (by repeat (first | (with_reducible first | exact HB.out | apply bA | apply bN | apply bD | refine bS ?_ GE368.out | refine bS ?_ GE369.out) | exact HB.out)) hb); clear BK368; clear BK369; clear HB; have HO377 := n0_; have BK368 := n1_; have BK369 := n2_; have HB := n3_; clear n0_ n1_ n2_ n3_; (try clear hb); (try clear hb2); (try clear hk); (try clear hi); (try clear ho0); have hcz21_0 : w20.cell? ⟨gb368, 0, none⟩ = some (.string a0_0) := (kC BK368.out 0).trans rfl; have hcz21_1 : w20.cell? ⟨gb368, 1, none⟩ = some (.string a0_1) := (kC BK368.out 1).trans rfl; have hcz21_2 : w20.cell? ⟨gb368, 2, none⟩ = some (.slice A0_2 l0_2.length c0_2) := (kC BK368.out 2).trans rfl; have hfz21_0 := kF BK368.out 0; have hfz21_1 := kF BK368.out 1; have hfz21_2 := kF BK368.out 2) | ((with_reducible refine gate_dst (N := 9) rfl ?_); refine box_event ?hg (N := 9) ?hd (cs := #[.string (⟨#[]⟩ : ByteArray), .string (⟨#[]⟩ : ByteArray), .slice none 0 0]) (t := 24) ?hr ?_; (case hd => rfl); (case hg => rfl); (case hr => first | (go_simp; done) | (go_simp; rfl)); intro gb378 hg w22 hbox hb; have n0_ := As.mk (Kd.R_below (by (with_reducible repeat (first | apply Kd.R_alloc | apply Kd.R_drewN | apply Kd.R_drew)); exact HO377.out) hb); have n1_ := As.mk (kB (g := gb368) (o := .cells #[.string a0_0, .string a0_1, .slice A0_2 l0_2.length c0_2] 24 (0, 0)) (by (with_reducible repeat (first | refine kN ?_ _ | refine kD ?_ | refine kA ?_ _)); exact BK368.out) hb); have n2_ := As.mk (kB (g := gb369) (o := .cells #[.string (⟨#[]⟩ : ByteArray), .string (⟨#[]⟩ : ByteArray), .slice none 0 0] 24 (0, 0)) (by (with_reducible repeat (first | refine kN ?_ _ | refine kD ?_ | refine kA ?_ _)); exact BK369.out) hb); have n3_ := As.mk (bT (by repeat (first | (with_reducible first | exact HB.out | apply bA | apply bN | apply bD | refine bS ?_ GE368.out | refine bS ?_ GE369.out) | exact HB.out)) hb); have n4_ := As.mk (hbox); have n5_ := As.mk ((by rw [hg]; exact (bZ (by repeat (first | (with_reducible first | exact HB.out | apply bA | apply bN | apply bD | refine bS ?_ GE368.out | refine bS ?_ GE369.out) | exact HB.out))) : w.heap.size ≤ gb378)); have n6_ := As.mk ((by rw [hg]; exact (bZ (by repeat (first | (with_reducible first | exact HB.out | apply bA | apply bN | apply bD | refine bS ?_ GE368.out | refine bS ?_ GE369.out) | exact HB.out))) : w.heap.size ≤ gb378)); have n7_ := As.mk ((by rw [hg]; exact Nat.ne_of_lt (blk_lt (g := gb368) (o := .cells #[.string a0_0, .string a0_1, .slice A0_2 l0_2.length c0_2] 24 (0, 0)) (by (with_reducible repeat (first | refine kN ?_ _ | refine kD ?_ | refine kA ?_ _)); exact BK368.out)) : gb368 ≠ gb378)); have n8_ := As.mk ((by rw [hg]; exact Nat.ne_of_gt (blk_lt (g := gb368) (o := .cells #[.string a0_0, .string a0_1, .slice A0_2 l0_2.length c0_2] 24 (0, 0)) (by (with_reducible repeat (first | refine kN ?_ _ | refine kD ?_ | refine kA ?_ _)); exact BK368.out)) : gb378 ≠ gb368)); have n9_ := As.mk ((by rw [hg]; exact Nat.ne_of_lt (blk_lt (g := gb369) (o := .cells #[.string (⟨#[]⟩ : ByteArray), .string (⟨#[]⟩ : ByteArray), .slice none 0 0] 24 (0, 0)) (by (with_reducible repeat (first | refine kN ?_ _ | refine kD ?_ | refine kA ?_ _)); exact BK369.out)) : gb369 ≠ gb378)); have n10_ := As.mk ((by rw [hg]; exact Nat.ne_of_gt (blk_lt (g := gb369) (o := .cells #[.string (⟨#[]⟩ : ByteArray), .string (⟨#[]⟩ : ByteArray), .slice none 0 0] 24 (0, 0)) (by (with_reducible repeat (first | refine kN ?_ _ | refine kD ?_ | refine kA ?_ _)); exact BK369.out)) : gb378 ≠ gb369)); clear HO377; clear BK368; clear BK369; clear HB; have HO377 := n0_; have BK368 := n1_; have BK369 := n2_; have HB := n3_; have BK378 := n4_; have GW378 := n5_; have GE378 := n6_; have NB368_378 := n7_; have NB378_368 := n8_; have NB369_378 := n9_; have NB378_369 := n10_; clear n0_ n1_ n2_ n3_ n4_ n5_ n6_ n7_ n8_ n9_ n10_; clear hb hbox hg; have hnb23 := NB378_368.out; have hnc23 := NB368_378.out; have hnb24 := NB378_369.out; have hnc24 := NB369_378.out; have hcz25_0 : w22.cell? ⟨gb378, 0, none⟩ = some (.string (⟨#[]⟩ : ByteArray)) := (kC BK378.out 0).trans rfl; have hcz25_1 : w22.cell? ⟨gb378, 1, none⟩ = some (.string (⟨#[]⟩ : ByteArray)) := (kC BK378.out 1).trans rfl; have hcz25_2 : w22.cell? ⟨gb378, 2, none⟩ = some (.slice none 0 0) := (kC BK378.out 2).trans rfl; have hfz25_0 := kF BK378.out 0; have hfz25_1 := kF BK378.out 1; have hfz25_2 := kF BK378.out 2))
   go_loopg [10] kj4 (fun kq v10 w' => ∃ (x10_2 : Int) (x379002_2 : List (S31)) (u379002 : Value), v10 = .int .i64 x10_2 ∧ As (majordomoref06_Full.l0 kq t374 x10_2 a0_0 a0_1 l0_2 a0_0 a0_1 x379002_2 = some (r1, r2, r3, r4)) ∧ As (kq ≤ kj4) ∧ As (Kd.R k81 81 w' w.heap.size (fun _ => True) v376 t374) ∧ As (Kd.R k31 31 w' w.heap.size (fun _ => True) u379002 x379002_2) ∧ As (w'.heap[gb368]? = some (.cells #[.string a0_0, .string a0_1, (.slice A0_2 l0_2.length c0_2)] 24 (0, 0))) ∧ As (w'.heap[gb369]? = some (.cells #[.string (⟨#[]⟩ : ByteArray), .string (⟨#[]⟩ : ByteArray), (.slice none 0 0)] 24 (0, 0))) ∧ As (w'.heap[gb378]? = some (.cells #[.string a0_0, .string a0_1, u379002] 24 (0, 0))) ∧ As (Below w.heap.size w w'))
   case atStart => exact ⟨(0), (([] : List (S31))), (.slice none 0 0), (by first | rfl | (simp; done) | (simp [*]; done)), H', ⟨Nat.le_refl _⟩, ⟨by (with_reducible repeat (first | apply Kd.R_alloc | apply Kd.R_drewN | apply Kd.R_drew)); exact Kd.R_mono (Kd.R_far (p := ⟨gb378, 2, none⟩) (Kd.R_far (p := ⟨gb378, 1, none⟩) (Kd.R_far (p := ⟨gb378, 0, none⟩) (Kd.R_types HO377.out BK378.out (by decide)) (fun _ hk => hk.2) (.string a0_0)) (fun _ hk => hk.2) (.string a0_1)) (fun _ hk => hk.2) (.slice none 0 0)) (fun _ hk => trivial)⟩, ⟨by first | exact Kd.R_nil _ _ _ _ _ | exact Kd.N_nil _ _ _ _ _ | exact Kd.V_nil _ _ _ _ _ | exact Kd.Q_nil _ _ _ _ _ | exact Kd.S_nil _ _ _ _ _⟩, ⟨by (with_reducible repeat (first | refine kN ?_ _ | refine kD ?_ | refine kA ?_ _)); refine kR ?_ NB368_378.out _; (with_reducible repeat (first | refine kN ?_ _ | refine kD ?_ | refine kA ?_ _)); refine kR ?_ NB368_378.out _; (with_reducible repeat (first | refine kN ?_ _ | refine kD ?_ | refine kA ?_ _)); refine kR ?_ NB368_378.out _; (with_reducible repeat (first | refine kN ?_ _ | refine kD ?_ | refine kA ?_ _)); exact BK368.out⟩, ⟨by (with_reducible repeat (first | refine kN ?_ _ | refine kD ?_ | refine kA ?_ _)); refine kR ?_ NB369_378.out _; (with_reducible repeat (first | refine kN ?_ _ | refine kD ?_ | refine kA ?_ _)); refine kR ?_ NB369_378.out _; (with_reducible repeat (first | refine kN ?_ _ | refine kD ?_ | refine kA ?_ _)); refine kR ?_ NB369_378.out _; (with_reducible repeat (first | refine kN ?_ _ | refine kD ?_ | refine kA ?_ _)); exact BK369.out⟩, ⟨by (with_reducible repeat (first | refine kN ?_ _ | refine kD ?_ | refine kA ?_ _)); refine kP (cs := #[.string a0_0, .string a0_1, .slice none 0 0]) ?_ 2 _ rfl; (with_reducible repeat (first | refine kN ?_ _ | refine kD ?_ | refine kA ?_ _)); refine kP (cs := #[.string a0_0, .string (⟨#[]⟩ : ByteArray), .slice none 0 0]) ?_ 1 _ rfl; (with_reducible repeat (first | refine kN ?_ _ | refine kD ?_ | refine kA ?_ _)); refine kP (cs := #[.string (⟨#[]⟩ : ByteArray), .string (⟨#[]⟩ : ByteArray), .slice none 0 0]) ?_ 0 _ rfl; (with_reducible repeat (first | refine kN ?_ _ | refine kD ?_ | refine kA ?_ _)); exact BK378.out⟩, ⟨by repeat (first | (with_reducible first | exact HB.out | apply bA | apply bN | apply bD | refine bS ?_ GE368.out | refine bS ?_ GE369.out | refine bS ?_ GE378.out) | exact HB.out)⟩⟩
   case round =>
    clear H'
    try clear c1
    try clear c2
    try clear p2
    try clear c3
    try clear c3b0
    try clear c3b1
    try clear c8
    try clear c12
    try clear c13
    try clear c15
    try clear c18
    try clear c23
    try clear c24
    try clear hcz11_0
    try clear hcz11_1
    try clear hcz11_2
    try clear hcz16_0
    try clear hcz16_1
    try clear hcz16_2
    try clear hcz19_0
    try clear hcz19_1
    try clear hcz19_2
    try clear hcz21_0
    try clear hcz21_1
    try clear hcz21_2
    try clear hcz25_0
    try clear hcz25_1
    try clear hcz25_2
    try clear hcz9_0
    try clear hcz9_1
    try clear hcz9_2
    try clear hfz11_0
    try clear hfz11_1
    try clear hfz11_2
    try clear hfz16_0
    try clear hfz16_1
    try clear hfz16_2
    try clear hfz19_0
    try clear hfz19_1
    try clear hfz19_2
    try clear hfz21_0
    try clear hfz21_1
    try clear hfz21_2
    try clear hfz25_0
    try clear hfz25_1
    try clear hfz25_2
    try clear hfz9_0
    try clear hfz9_1
    try clear hfz9_2
    try clear p2
    obtain ⟨x10_2, x379002_2, u379002, rfl, HA, HK2, HO_7, HO_379002, BK368, BK369, BK378, HB⟩ := hrel
    cases gk with
    | zero => exact absurd HA.out (by simp [majordomoref06_Full.l0])
    | succ k2 =>
     have H := HA.out
     clear HA
     simp only [majordomoref06_Full.l0] at H
     by_cases c26 : x10_2 < (t374.length : Int)
     rotate_left
     · rw [if_neg c26] at H
       have c26b0 : decide (x10_2 < (t374.length : Int)) = false := decide_eq_false c26
       clear c26
       simp only [Option.some.injEq, Prod.mk.injEq] at H
       obtain ⟨rfl, rfl, rfl, rfl⟩ := H
       obtain ⟨Ao46, co46, eo46⟩ := Kd.R_slice HO_7.out
       subst eo46
       have hnb47 := NB378_368.out
       have hnc47 := NB368_378.out
       have hnb48 := NB378_369.out
       have hnc48 := NB369_378.out
       have hcz49_0 : wr.cell? ⟨gb378, 0, none⟩ = some (.string a0_0) := (kC BK378.out 0).trans rfl
       have hcz49_1 : wr.cell? ⟨gb378, 1, none⟩ = some (.string a0_1) := (kC BK378.out 1).trans rfl
       have hcz49_2 : wr.cell? ⟨gb378, 2, none⟩ = some (u379002) := (kC BK378.out 2).trans rfl
       have hfz49_0 := kF BK378.out 0
       have hfz49_1 := kF BK378.out 1
       have hfz49_2 := kF BK378.out 2
       have hnb50 := NB369_368.out
       have hnc50 := NB368_369.out
       have hcz51_0 : wr.cell? ⟨gb369, 0, none⟩ = some (.string (⟨#[]⟩ : ByteArray)) := (kC BK369.out 0).trans rfl
       have hcz51_1 : wr.cell? ⟨gb369, 1, none⟩ = some (.string (⟨#[]⟩ : ByteArray)) := (kC BK369.out 1).trans rfl
       have hcz51_2 : wr.cell? ⟨gb369, 2, none⟩ = some (.slice none 0 0) := (kC BK369.out 2).trans rfl
       have hfz51_0 := kF BK369.out 0
       have hfz51_1 := kF BK369.out 1
       have hfz51_2 := kF BK369.out 2
       obtain ⟨Ao52, co52, eo52⟩ := Kd.R_slice HO_379002.out
       subst eo52
       go_wp2
       refine bodyPost_ret (results_ct rfl _ _ gb369 24 #[.string a0_0, .string a0_1, .slice Ao52 x379002_2.length co52] (0, 0) _ rfl (by (with_reducible repeat (first | refine kN ?_ _ | refine kD ?_ | refine kA ?_ _)); refine kP (cs := #[.string a0_0, .string a0_1, .slice none 0 0]) ?_ 2 _ rfl; (with_reducible repeat (first | refine kN ?_ _ | refine kD ?_ | refine kA ?_ _)); refine kP (cs := #[.string a0_0, .string (⟨#[]⟩ : ByteArray), .slice none 0 0]) ?_ 1 _ rfl; (with_reducible repeat (first | refine kN ?_ _ | refine kD ?_ | refine kA ?_ _)); refine kP (cs := #[.string (⟨#[]⟩ : ByteArray), .string (⟨#[]⟩ : ByteArray), .slice none 0 0]) ?_ 0 _ rfl; (with_reducible repeat (first | refine kN ?_ _ | refine kD ?_ | refine kA ?_ _)); exact BK369.out) Tryz.underlying24 rfl (by kernel_rfl)) rfl ?_
       exact ⟨_, by first | rfl | (simp [errW_none, errW_some] <;> rfl) | (simp [*, errW_none, errW_some] <;> rfl), by (with_reducible repeat (first | apply Kd.R_alloc | apply Kd.R_drewN | apply Kd.R_drew)); exact Kd.R_mono (Kd.R_far (p := ⟨gb369, 2, none⟩) (Kd.R_far (p := ⟨gb369, 1, none⟩) (Kd.R_far (p := ⟨gb369, 0, none⟩) (Kd.R_types HO_379002.out BK369.out (by decide)) (fun _ hk => hk.2) (.string a0_0)) (fun _ hk => hk.2) (.string a0_1)) (fun _ hk => hk.2) (.slice Ao52 x379002_2.length co52)) (fun _ hk => trivial), by repeat (first | (with_reducible first | exact HB.out | apply bA | apply bN | apply bD | refine bS ?_ GE368.out | refine bS ?_ GE369.out | refine bS ?_ GE378.out) | exact HB.out)⟩
     rw [if_pos c26] at H
     have c26b0 : decide (x10_2 < (t374.length : Int)) = true := decide_eq_true c26
     clear c26
     by_cases c27 : 0 ≤ x10_2
     rotate_left
     · rw [if_neg c27] at H
       exact absurd H (by simp)
     rw [if_pos c27] at H
     have c27b0 : decide (0 ≤ x10_2) = true := decide_eq_true c27
     clear c27
     replace H := Option.bind_eq_some_iff.mp H
     obtain ⟨⟨t380, t381⟩, A280, H⟩ := H
     replace H : (if t381 = true then (if x379002_2.length < 4398046511104 then (majordomoref06_Full.l0 k2 t374 (wrap64 (x10_2 + 1)) a0_0 a0_1 l0_2 a0_0 a0_1 (x379002_2 ++ [(⟨(rd_T81 t374 x10_2).f0, t380⟩ : S31)])) else (none)) else (if x379002_2.length < 4398046511104 then (majordomoref06_Full.l0 k2 t374 (wrap64 (x10_2 + 1)) a0_0 a0_1 l0_2 a0_0 a0_1 (x379002_2 ++ [(⟨(rd_T81 t374 x10_2).f0, (rd_T81 t374 x10_2).f1⟩ : S31)])) else (none))) = some (r1, r2, r3, r4) := H
     have A28 := As.mk A280
     clear A280
     by_cases c29 : t381 = true
     · subst c29
       have H1 : (if x379002_2.length < 4398046511104 then (majordomoref06_Full.l0 k2 t374 (wrap64 (x10_2 + 1)) a0_0 a0_1 l0_2 a0_0 a0_1 (x379002_2 ++ [(⟨(rd_T81 t374 x10_2).f0, t380⟩ : S31)])) else (none)) = some (r1, r2, r3, r4) := by rw [if_pos rfl] at H; exact H
       clear H
       have H := H1
       clear H1
       by_cases c30 : x379002_2.length < 4398046511104
       rotate_left
       · rw [if_neg c30] at H
         exact absurd H (by simp)
       rw [if_pos c30] at H
       have LMc30 := As.mk c30
       clear c30
       obtain ⟨y383, hy383⟩ : ∃ y_ : List (S31), y_ = (x379002_2 ++ [(⟨(rd_T81 t374 x10_2).f0, t380⟩ : S31)]) := ⟨_, rfl⟩
       replace H : (majordomoref06_Full.l0 k2 t374 (wrap64 (x10_2 + 1)) a0_0 a0_1 l0_2 a0_0 a0_1 y383) = some (r1, r2, r3, r4) := by first | (rw [hy383]; with_reducible exact H) | (have H2_ := (Option.bind_some _ _).symm.trans H; rw [hy383]; with_reducible exact H2_) | (have H2_ := (Option.bind_some _ _).symm.trans H; with_reducible exact H2_) | with_reducible exact H | (rw [hy383]; exact H) | exact H
       have Ny383 := As.mk hy383
       clear hy383
       have H' := As.mk H
       clear H
       obtain ⟨Ao31, co31, eo31⟩ := Kd.R_slice HO_7.out
       subst eo31
       try go_wp2
       have n0_ := As.mk (Kd.R_drew HO_7.out)
       have n1_ := As.mk (Kd.R_drew HO_379002.out)
       have n2_ := As.mk (kD BK368.out)
       have n3_ := As.mk (kD BK369.out)
       have n4_ := As.mk (kD BK378.out)
       have n5_ := As.mk (bD HB.out)
       clear HO_7
       clear HO_379002
       clear BK368
       clear BK369
       clear BK378
       clear HB
       have HO_7 := n0_
       have HO_379002 := n1_
       have BK368 := n2_
       have BK369 := n3_
       have BK378 := n4_
       have HB := n5_
       clear n0_ n1_ n2_ n3_ n4_ n5_
       have p379 : 0 ≤ (x10_2 : Int) := of_decide_eq_true (by first | (with_reducible assumption) | assumption)
       have q379 : x10_2 < (t374.length : Int) := of_decide_eq_true (by first | (with_reducible assumption) | assumption)
       obtain ⟨ad379, e379, hx379_0, hx379_1, hx379_2⟩ := at_T81 (Kd.R_reads' HO_7.out).2.2 x10_2 p379 q379
       cases e379
       replace p379 := eq_true p379
       replace q379 := eq_true q379
       refine start_ (n := 12) (S := fun w' => w'.cell? ⟨gb368, 0, none⟩ = some (.string a0_0) ∧ w'.cell? ⟨gb368, 1, none⟩ = some (.string a0_1) ∧ w'.cell? ⟨gb368, 2, none⟩ = some (.slice A0_2 l0_2.length c0_2) ∧ w'.cell? (ad379.add ((x10_2).toNat * 3)) = some (.string ((rd_T81 t374 x10_2).f0)) ∧ w'.cell? ⟨(ad379.add ((x10_2).toNat * 3)).block, (ad379.add ((x10_2).toNat * 3)).off + 1, none⟩ = some (.string ((rd_T81 t374 x10_2).f1)) ∧ w'.cell? ⟨(ad379.add ((x10_2).toNat * 3)).block, (ad379.add ((x10_2).toNat * 3)).off + 2, none⟩ = some (.bool ((rd_T81 t374 x10_2).f2))) (ds := []) #[false, false, false, false, false, false, false, false, false, false, false, false] (by kernel_rfl) rfl rfl ⟨(kC BK368.out 0).trans rfl, (kC BK368.out 1).trans rfl, (kC BK368.out 2).trans rfl, hx379_0, hx379_1, hx379_2⟩ (fun hHeld => ?_); refine with_tabW majordomoref06_Full.tab12 majordomoref06_Full.bits12 (fun HT_ HW_ => ?_)
       generalize wr.drew = w32 at HO_7 HO_379002 BK368 BK369 BK378 HB hx379_0 hx379_1 hx379_2 hHeld ⊢
       refine pure_ (i := 1) (N := some 49) (v := ?_) (a' := ?_) #[false, true, false, false, false, false, false, false, false, false, false, false] rfl rfl (any_of HT_.out (by kernel_rfl)) (fun _ _ _ h => h) (Or.inl ⟨by rfl, ?_⟩) ?_ ?_
       rotate_left
       · intro w'
         go_simp
         with_reducible rfl
       rotate_left
       · simp only [Act.put, zA, zZ, zS, i64_w, i32_w]
         rfl
       refine pure_ (i := 2) (N := some 50) (v := ?_) (a' := ?_) #[false, true, true, false, false, false, false, false, false, false, false, false] rfl rfl (any_of HT_.out (by kernel_rfl)) (fun _ _ _ h => h) (Or.inl ⟨by rfl, ?_⟩) ?_ ?_
       rotate_left
       · intro w'
         go_simp
         with_reducible rfl
       rotate_left
       · simp only [Act.put, zA, zZ, zS, i64_w, i32_w]
         rfl
       refine pure_ (i := 3) (N := some 51) (v := ?_) (a' := ?_) #[false, true, true, true, false, false, false, false, false, false, false, false] rfl rfl (any_of HT_.out (by kernel_rfl)) (fun _ _ _ h => h) (Or.inl ⟨by rfl, ?_⟩) ?_ ?_
       rotate_left
       · intro w'
         go_simp
         with_reducible rfl
       rotate_left
       · simp only [Act.put, zA, zZ, zS, i64_w, i32_w]
         rfl
       refine pure_ (i := 4) (N := some 52) (v := ?_) (a' := ?_) #[false, true, true, true, true, false, false, false, false, false, false, false] rfl rfl (any_of HT_.out (by kernel_rfl)) (fun _ _ _ h => h) (Or.inl ⟨by rfl, ?_⟩) ?_ ?_
       rotate_left
       · intro w'
         go_simp
         with_reducible rfl
       rotate_left
       · simp only [Act.put, zA, zZ, zS, i64_w, i32_w]
         rfl
       refine take_ (i := 0) (N := some 48) (v := ?_) (a' := ?_) #[true, true, true, true, true, false, false, false, false, false, false, false] rfl rfl (take_ofW HT_.out HW_.out (by kernel_rfl)) (fun _ _ _ h => h) (Or.inl ⟨by rfl, ?_⟩) hHeld ?_ ?_
       rotate_left
       · rintro w' ⟨s0, s1, s2, s3, s4, s5⟩
         go_simp
         with_reducible rfl
       rotate_left
       · simp only [Act.put, zA, zZ, zS, i64_w, i32_w]
         rfl
       refine take_ (i := 5) (N := some 53) (v := ?_) (a' := ?_) #[true, true, true, true, true, true, false, false, false, false, false, false] rfl rfl (take_ofW HT_.out HW_.out (by kernel_rfl)) (fun _ _ _ h => h) (Or.inl ⟨by rfl, ?_⟩) hHeld ?_ ?_
       rotate_left
       · rintro w' ⟨s0, s1, s2, s3, s4, s5⟩
         go_simp
         with_reducible rfl
       rotate_left
       · simp only [Act.put, zA, zZ, zS, i64_w, i32_w]
         rfl
       refine one_ (i := 6) (N := some 54) #[true, true, true, true, true, true, true, false, false, false, false, false] rfl rfl (one_of HT_.out (by kernel_rfl)) (by decide) (fun K hK => ?_)
       refine goes_ Tryz.func32 (by kernel_rfl) rfl #[.agg #[.string a0_0, .string a0_1, .slice A0_2 l0_2.length c0_2], .string ((rd_T81 t374 x10_2).f0)] (by rfl) rfl rfl (by (try simp only [List.map_toArray, List.map_cons, List.map_nil]); first | done | rfl | (simp only [List.length_drop, List.length_take]; rfl)) ?_
       with_reducible refine (majordomoref06_Get.calls k2 a0_0 a0_1 _ _ l0_2 ((rd_T81 t374 x10_2).f0) t380 true _ ?side1 ?side2 A28.out).mono ?_
       (case side1 => repeat (first | exact (Kd.C_below HR0_2.out HB.out) | (with_reducible refine Kd.C_alloc ?_ _) | (with_reducible refine Kd.C_drewN ?_ _) | (with_reducible refine Kd.C_drew ?_)))
       (case side2 => exact HC0_2.out)
       rintro e w33 ⟨rfl, hb⟩
       have HS3_ := (hb.cell (World.block_lt_of_cell? _ _ (hHeld.2.2.2.1))).trans (hHeld.2.2.2.1)
       have HS4_ := (hb.cell (World.block_lt_of_cell? _ _ (hHeld.2.2.2.2.1))).trans (hHeld.2.2.2.2.1)
       have HS5_ := (hb.cell (World.block_lt_of_cell? _ _ (hHeld.2.2.2.2.2))).trans (hHeld.2.2.2.2.2)
       refine ⟨_, rfl, ?_⟩
       have n0_ := As.mk (Kd.R_below (by (with_reducible repeat (first | apply Kd.R_alloc | apply Kd.R_drewN | apply Kd.R_drew)); exact HO_7.out) hb)
       have n1_ := As.mk (Kd.R_below (by (with_reducible repeat (first | apply Kd.R_alloc | apply Kd.R_drewN | apply Kd.R_drew)); exact HO_379002.out) hb)
       have n2_ := As.mk (kB (g := gb368) (o := .cells #[.string a0_0, .string a0_1, .slice A0_2 l0_2.length c0_2] 24 (0, 0)) (by (with_reducible repeat (first | refine kN ?_ _ | refine kD ?_ | refine kA ?_ _)); exact BK368.out) hb)
       have n3_ := As.mk (kB (g := gb369) (o := .cells #[.string (⟨#[]⟩ : ByteArray), .string (⟨#[]⟩ : ByteArray), .slice none 0 0] 24 (0, 0)) (by (with_reducible repeat (first | refine kN ?_ _ | refine kD ?_ | refine kA ?_ _)); exact BK369.out) hb)
       have n4_ := As.mk (kB (g := gb378) (o := .cells #[.string a0_0, .string a0_1, u379002] 24 (0, 0)) (by (with_reducible repeat (first | refine kN ?_ _ | refine kD ?_ | refine kA ?_ _)); exact BK378.out) hb)
       have n5_ := As.mk (bT (by repeat (first | (with_reducible first | exact HB.out | apply bA | apply bN | apply bD | refine bS ?_ GE368.out | refine bS ?_ GE369.out | refine bS ?_ GE378.out) | exact HB.out)) hb)
       clear HO_7
       clear HO_379002
       clear BK368
       clear BK369
       clear BK378
       clear HB
       have HO_7 := n0_
       have HO_379002 := n1_
       have BK368 := n2_
       have BK369 := n3_
       have BK378 := n4_
       have HB := n5_
       clear n0_ n1_ n2_ n3_ n4_ n5_
       (try clear hb)
       (try clear hb2)
       (try clear hk)
       (try clear hi)
       refine hK.out _ _ ⟨(kC BK368.out 0).trans rfl, (kC BK368.out 1).trans rfl, (kC BK368.out 2).trans rfl, HS3_, HS4_, HS5_⟩ (fun hHeld => ?_)
       clear hK K
       refine norm_ (a' := ?_) ?_ ?_
       rotate_left
       · show Act.put _ (some 54) _ = _
         simp only [Act.put, zA, zZ, zS, i64_w, i32_w]
         rfl
       refine pure_ (i := 7) (N := some 47) (v := ?_) (a' := ?_) #[true, true, true, true, true, true, true, true, false, false, false, false] rfl rfl (any_of HT_.out (by kernel_rfl)) (fun _ _ _ h => h) (Or.inl ⟨by rfl, ?_⟩) ?_ ?_
       rotate_left
       · intro w'
         go_simp
         with_reducible rfl
       rotate_left
       · simp only [Act.put, zA, zZ, zS, i64_w, i32_w]
         rfl
       refine pure_ (i := 8) (N := some 55) (v := ?_) (a' := ?_) #[true, true, true, true, true, true, true, true, true, false, false, false] rfl rfl (any_of HT_.out (by kernel_rfl)) (fun _ _ _ h => h) (Or.inl ⟨by rfl, ?_⟩) ?_ ?_
       rotate_left
       · intro w'
         go_simp
         with_reducible rfl
       rotate_left
       · simp only [Act.put, zA, zZ, zS, i64_w, i32_w]
         rfl
       refine pure_ (i := 9) (N := some 56) (v := ?_) (a' := ?_) #[true, true, true, true, true, true, true, true, true, true, false, false] rfl rfl (any_of HT_.out (by kernel_rfl)) (fun _ _ _ h => h) (Or.inl ⟨by rfl, ?_⟩) ?_ ?_
       rotate_left
       · intro w'
         go_simp
         with_reducible rfl
       rotate_left
       · simp only [Act.put, zA, zZ, zS, i64_w, i32_w]
         rfl
       refine pure_ (i := 10) (N := some 11) (v := ?_) (a' := ?_) #[true, true, true, true, true, true, true, true, true, true, true, false] rfl rfl (any_of HT_.out (by kernel_rfl)) (fun _ _ _ h => h) (Or.inl ⟨by rfl, ?_⟩) ?_ ?_
       rotate_left
       · intro w'
         go_simp
         with_reducible rfl
       rotate_left
       · simp only [Act.put, zA, zZ, zS, i64_w, i32_w]
         rfl
       refine pure_ (i := 11) (N := some 12) (v := ?_) (a' := ?_) #[true, true, true, true, true, true, true, true, true, true, true, true] rfl rfl (any_of HT_.out (by kernel_rfl)) (fun _ _ _ h => h) (Or.inl ⟨by rfl, ?_⟩) ?_ ?_
       rotate_left
       · intro w'
         go_simp
         with_reducible rfl
       rotate_left
       · simp only [Act.put, zA, zZ, zS, i64_w, i32_w]
         rfl
       refine done_ (done_of HT_.out (by kernel_rfl)) ?_
       try go_wp2
       have n0_ := As.mk (Kd.R_drew HO_7.out)
       have n1_ := As.mk (Kd.R_drew HO_379002.out)
       have n2_ := As.mk (kD BK368.out)
       have n3_ := As.mk (kD BK369.out)
       have n4_ := As.mk (kD BK378.out)
       have n5_ := As.mk (bD HB.out)
       clear HO_7
       clear HO_379002
       clear BK368
       clear BK369
       clear BK378
       clear HB
       have HO_7 := n0_
       have HO_379002 := n1_
       have BK368 := n2_
       have BK369 := n3_
       have BK378 := n4_
       have HB := n5_
       clear n0_ n1_ n2_ n3_ n4_ n5_
       have p382 : 0 ≤ (x10_2 : Int) := of_decide_eq_true (by first | (with_reducible assumption) | assumption)
       have q382 : x10_2 < (t374.length : Int) := of_decide_eq_true (by first | (with_reducible assumption) | assumption)
       obtain ⟨ad382, e382, hx382_0, hx382_1, hx382_2⟩ := at_T81 (Kd.R_reads' HO_7.out).2.2 x10_2 p382 q382
       obtain rfl : ad379 = ad382 := (by injection e382)
       replace p382 := eq_true p382
       replace q382 := eq_true q382
       refine start_ (n := 13) (S := fun w' => w'.cell? ⟨gb378, 0, none⟩ = some (.string a0_0) ∧ w'.cell? ⟨gb378, 1, none⟩ = some (.string a0_1) ∧ w'.cell? ⟨gb378, 2, none⟩ = some (u379002) ∧ w'.cell? (ad379.add ((x10_2).toNat * 3)) = some (.string ((rd_T81 t374 x10_2).f0)) ∧ w'.cell? ⟨(ad379.add ((x10_2).toNat * 3)).block, (ad379.add ((x10_2).toNat * 3)).off + 1, none⟩ = some (.string ((rd_T81 t374 x10_2).f1)) ∧ w'.cell? ⟨(ad379.add ((x10_2).toNat * 3)).block, (ad379.add ((x10_2).toNat * 3)).off + 2, none⟩ = some (.bool ((rd_T81 t374 x10_2).f2))) (ds := [10, 12]) #[false, false, false, false, false, false, false, false, false, false, false, false, false] (by kernel_rfl) rfl rfl ⟨(kC BK378.out 0).trans rfl, (kC BK378.out 1).trans rfl, (kC BK378.out 2).trans rfl, hx382_0, hx382_1, hx382_2⟩ (fun hHeld => ?_); refine with_tabW majordomoref06_Full.tab15 majordomoref06_Full.bits15 (fun HT_ HW_ => ?_)
       generalize w33.drew = w34 at HO_7 HO_379002 BK368 BK369 BK378 HB hx382_0 hx382_1 hx382_2 hHeld ⊢
       refine pure_ (i := 0) (N := some 64) (v := ?_) (a' := ?_) #[true, false, false, false, false, false, false, false, false, false, false, false, false] rfl rfl (any_of HT_.out (by kernel_rfl)) (fun _ _ _ h => h) (Or.inl ⟨by rfl, ?_⟩) ?_ ?_
       rotate_left
       · intro w'
         go_simp
         with_reducible rfl
       rotate_left
       · simp only [Act.put, zA, zZ, zS, i64_w, i32_w]
         rfl
       refine pure_ (i := 2) (N := some 66) (v := ?_) (a' := ?_) #[true, false, true, false, false, false, false, false, false, false, false, false, false] rfl rfl (any_of HT_.out (by kernel_rfl)) (fun _ _ _ h => h) (Or.inl ⟨by rfl, ?_⟩) ?_ ?_
       rotate_left
       · intro w'
         go_simp
         with_reducible rfl
       rotate_left
       · simp only [Act.put, zA, zZ, zS, i64_w, i32_w]
         rfl
       refine pure_ (i := 3) (N := some 67) (v := ?_) (a' := ?_) #[true, false, true, true, false, false, false, false, false, false, false, false, false] rfl rfl (any_of HT_.out (by kernel_rfl)) (fun _ _ _ h => h) (Or.inl ⟨by rfl, ?_⟩) ?_ ?_
       rotate_left
       · intro w'
         go_simp
         with_reducible rfl
       rotate_left
       · simp only [Act.put, zA, zZ, zS, i64_w, i32_w]
         rfl
       refine pure_ (i := 4) (N := some 68) (v := ?_) (a' := ?_) #[true, false, true, true, true, false, false, false, false, false, false, false, false] rfl rfl (any_of HT_.out (by kernel_rfl)) (fun _ _ _ h => h) (Or.inl ⟨by rfl, ?_⟩) ?_ ?_
       rotate_left
       · intro w'
         go_simp
         with_reducible rfl
       rotate_left
       · simp only [Act.put, zA, zZ, zS, i64_w, i32_w]
         rfl
       refine pure_ (i := 5) (N := some 69) (v := ?_) (a' := ?_) #[true, false, true, true, true, true, false, false, false, false, false, false, false] rfl rfl (any_of HT_.out (by kernel_rfl)) (fun _ _ _ h => h) (Or.inl ⟨by rfl, ?_⟩) ?_ ?_
       rotate_left
       · intro w'
         go_simp
         with_reducible rfl
       rotate_left
       · simp only [Act.put, zA, zZ, zS, i64_w, i32_w]
         rfl
       refine pure_ (i := 7) (N := some 71) (v := ?_) (a' := ?_) #[true, false, true, true, true, true, false, true, false, false, false, false, false] rfl rfl (any_of HT_.out (by kernel_rfl)) (fun _ _ _ h => h) (Or.inl ⟨by rfl, ?_⟩) ?_ ?_
       rotate_left
       · intro w'
         go_simp
         with_reducible rfl
       rotate_left
       · simp only [Act.put, zA, zZ, zS, i64_w, i32_w]
         rfl
       refine take_ (i := 1) (N := some 65) (v := ?_) (a' := ?_) #[true, true, true, true, true, true, false, true, false, false, false, false, false] rfl rfl (take_ofW HT_.out HW_.out (by kernel_rfl)) (fun _ _ _ h => h) (Or.inl ⟨by rfl, ?_⟩) hHeld ?_ ?_
       rotate_left
       · rintro w' ⟨s0, s1, s2, s3, s4, s5⟩
         go_simp
         with_reducible rfl
       rotate_left
       · simp only [Act.put, zA, zZ, zS, i64_w, i32_w]
         rfl
       refine take_ (i := 6) (N := some 70) (v := ?_) (a' := ?_) #[true, true, true, true, true, true, true, true, false, false, false, false, false] rfl rfl (take_ofW HT_.out HW_.out (by kernel_rfl)) (fun _ _ _ h => h) (Or.inl ⟨by rfl, ?_⟩) hHeld ?_ ?_
       rotate_left
       · rintro w' ⟨s0, s1, s2, s3, s4, s5⟩
         go_simp
         with_reducible rfl
       rotate_left
       · simp only [Act.put, zA, zZ, zS, i64_w, i32_w]
         rfl
       refine pure_ (i := 8) (N := some 72) (v := ?_) (a' := ?_) #[true, true, true, true, true, true, true, true, true, false, false, false, false] rfl rfl (any_of HT_.out (by kernel_rfl)) (fun _ _ _ h => h) (Or.inl ⟨by rfl, ?_⟩) ?_ ?_
       rotate_left
       · intro w'
         go_simp
         with_reducible rfl
       rotate_left
       · simp only [Act.put, zA, zZ, zS, i64_w, i32_w]
         rfl
       refine one_ (i := 9) (N := some 73) #[true, true, true, true, true, true, true, true, true, true, false, false, false] rfl rfl (one_of HT_.out (by kernel_rfl)) (by decide) (fun K hK => ?_)
       refine value_ (w1 := ?_) (v := ?_) (by rfl) rfl ?_ ?_
       rotate_left 2
       · go_simp
         constructor
         · rfl
         · rfl
       refine hK.out _ _ ⟨(kC (kA BK378.out _) 0).trans rfl, (kC (kA BK378.out _) 1).trans rfl, (kC (kA BK378.out _) 2).trans rfl, (World.cell?_alloc_lt _ _ _ (World.block_lt_of_cell? _ _ (hHeld.2.2.2.1))).trans (hHeld.2.2.2.1), (World.cell?_alloc_lt _ _ _ (World.block_lt_of_cell? _ _ (hHeld.2.2.2.2.1))).trans (hHeld.2.2.2.2.1), (World.cell?_alloc_lt _ _ _ (World.block_lt_of_cell? _ _ (hHeld.2.2.2.2.2))).trans (hHeld.2.2.2.2.2)⟩ (fun hHeld => ?_)
       clear hK K
       refine norm_ (a' := ?_) ?_ ?_
       rotate_left
       · show Act.put _ (some 73) _ = _
         simp only [Act.put, zA, zZ, zS, i64_w, i32_w]
         rfl
       refine last_ (i := 10) (N := some 74) #[true, true, true, true, true, true, true, true, true, true, true, false, false] rfl rfl (one_of HT_.out (by kernel_rfl)) (by decide) (fun K hK => ?_)
       refine Kd.R_append_step k31 (w0 := w) w.heap.size (by rfl) (.tmp 65) (.tmp 73) 22 31 (.agg #[(.string ⟨#[]⟩), (.string ⟨#[]⟩)]) 32 rfl Tryz.underlying22 info31 rfl (by decide) (by omega) u379002 x379002_2 (⟨(rd_T81 t374 x10_2).f0, t380⟩ : S31) [.string ((rd_T81 t374 x10_2).f0), .string t380] (fun _ => True) (fun _ => False) rfl rfl ?aP (fun _ hk => hk.elim) ?aF ?aO ?aB ?aS ?aL ?_
       (case aP => exact k31_mkM _ _ _ (⟨(rd_T81 t374 x10_2).f0, t380⟩ : S31))
       (case aB => exact (by repeat (first | (with_reducible first | exact HB.out | apply bA | apply bN | apply bD | refine bS ?_ GE368.out | refine bS ?_ GE369.out | refine bS ?_ GE378.out) | exact HB.out)))
       (case aF => exact (fun _ _ => trivial))
       (case aO => exact (by (with_reducible repeat (first | apply Kd.R_alloc | apply Kd.R_drewN | apply Kd.R_drew)); exact HO_379002.out))
       (case aS => exact (bZ (by repeat (first | (with_reducible first | exact HB.out | apply bA | apply bN | apply bD | refine bS ?_ GE368.out | refine bS ?_ GE369.out | refine bS ?_ GE378.out) | exact HB.out))))
       (case aL => have := LMc30.out; omega)
       intro v384 w35 ho hb hg hat
       rw [← Ny383.out] at ho
       have n0_ := As.mk (Kd.R_over' (by (with_reducible repeat (first | apply Kd.R_alloc | apply Kd.R_drewN | apply Kd.R_drew)); exact HO_7.out) (Kd.R_typed (by (with_reducible repeat (first | apply Kd.R_alloc | apply Kd.R_drewN | apply Kd.R_drew)); exact HO_379002.out)) (by decide) hg)
       have n1_ := As.mk (blk_grown (g := gb368) (o := .cells #[.string a0_0, .string a0_1, .slice A0_2 l0_2.length c0_2] 24 (0, 0)) (by (with_reducible repeat (first | refine kN ?_ _ | refine kD ?_ | refine kA ?_ _)); exact BK368.out) hg (Kd.R_ne HO_379002.out BK368.out (by decide)))
       have n2_ := As.mk (blk_grown (g := gb369) (o := .cells #[.string (⟨#[]⟩ : ByteArray), .string (⟨#[]⟩ : ByteArray), .slice none 0 0] 24 (0, 0)) (by (with_reducible repeat (first | refine kN ?_ _ | refine kD ?_ | refine kA ?_ _)); exact BK369.out) hg (Kd.R_ne HO_379002.out BK369.out (by decide)))
       have n3_ := As.mk (blk_grown (g := gb378) (o := .cells #[.string a0_0, .string a0_1, u379002] 24 (0, 0)) (by (with_reducible repeat (first | refine kN ?_ _ | refine kD ?_ | refine kA ?_ _)); exact BK378.out) hg (Kd.R_ne HO_379002.out BK378.out (by decide)))
       have n4_ := As.mk (hb)
       have n5_ := As.mk (ho)
       clear HO_7
       clear BK368
       clear BK369
       clear BK378
       clear HB
       clear HO_379002
       have HO_7 := n0_
       have BK368 := n1_
       have BK369 := n2_
       have BK378 := n3_
       have HB := n4_
       have HO385 := n5_
       clear n0_ n1_ n2_ n3_ n4_ n5_
       clear ho hb hg hat
       obtain ⟨Ao36, co36, eo36⟩ := Kd.R_slice HO385.out
       (first | subst eo36 | (injection eo36 with f1_ f2_ f3_; have f4_ := f1_.symm; have f5_ := f3_.symm; clear f1_ f2_ f3_; subst f4_; subst f5_))
       refine hK.out _ _ ?_
       clear hK K
       refine norm_ (a' := ?_) ?_ ?_
       rotate_left
       · show Act.put _ (some 74) _ = _
         simp only [Act.put, zA, zZ, zS, i64_w, i32_w]
         rfl
       refine pure_ (i := 11) (N := some 75) (v := ?_) (a' := ?_) #[true, true, true, true, true, true, true, true, true, true, true, true, false] rfl rfl (any_of HT_.out (by kernel_rfl)) (fun _ _ _ h => h) (Or.inl ⟨by rfl, ?_⟩) ?_ ?_
       rotate_left
       · intro w'
         go_simp
         with_reducible rfl
       rotate_left
       · simp only [Act.put, zA, zZ, zS, i64_w, i32_w]
         rfl
       refine last_ (i := 12) (N := none) #[true, true, true, true, true, true, true, true, true, true, true, true, true] rfl rfl (one_of HT_.out (by kernel_rfl)) (by decide) (fun K hK => ?_)
       have hs37 : w35.cell? ⟨gb378, 2, none⟩ = some (u379002) := (kC BK378.out 2).trans rfl
       have hfs37 := kF BK378.out 2
       have hns37_0 := NB368_378.out
       have hns37_1 := NB369_378.out
       have hms37_0 := NB378_368.out
       have hms37_1 := NB378_369.out
       refine skip_ (w1 := ?_) (by rfl) rfl ?_ ?_
       rotate_left
       · go_simp
         rfl
       refine hK.out _ _ ?_
       clear hK K
       refine done_ (done_of HT_.out (by kernel_rfl)) ?_
       try go_wp2
       go_roundg k2
       case measure => have := HJ4.out; have := HK2.out; omega
       case rel => exact ⟨(wrap64 (x10_2 + 1)), (y383), (.slice Ao36 y383.length co36), (by first | rfl | (simp; done) | (simp [*]; done)), H', ⟨by have := HJ4.out; have := HK2.out; omega⟩, ⟨by (with_reducible repeat (first | apply Kd.R_alloc | apply Kd.R_drewN | apply Kd.R_drew)); exact Kd.R_mono (Kd.R_far (p := ⟨gb378, 2, none⟩) (Kd.R_types HO_7.out BK378.out (by decide)) (fun _ hk => hk.2) (.slice Ao36 y383.length co36)) (fun _ hk => trivial)⟩, ⟨by (with_reducible repeat (first | apply Kd.R_alloc | apply Kd.R_drewN | apply Kd.R_drew)); exact Kd.R_mono (Kd.R_far (p := ⟨gb378, 2, none⟩) (Kd.R_types HO385.out BK378.out (by decide)) (fun _ hk => hk.2) (.slice Ao36 y383.length co36)) (fun _ hk => trivial)⟩, ⟨by (with_reducible repeat (first | refine kN ?_ _ | refine kD ?_ | refine kA ?_ _)); refine kR ?_ NB368_378.out _; (with_reducible repeat (first | refine kN ?_ _ | refine kD ?_ | refine kA ?_ _)); exact BK368.out⟩, ⟨by (with_reducible repeat (first | refine kN ?_ _ | refine kD ?_ | refine kA ?_ _)); refine kR ?_ NB369_378.out _; (with_reducible repeat (first | refine kN ?_ _ | refine kD ?_ | refine kA ?_ _)); exact BK369.out⟩, ⟨by (with_reducible repeat (first | refine kN ?_ _ | refine kD ?_ | refine kA ?_ _)); refine kP (cs := #[.string a0_0, .string a0_1, u379002]) ?_ 2 _ rfl; (with_reducible repeat (first | refine kN ?_ _ | refine kD ?_ | refine kA ?_ _)); exact BK378.out⟩, ⟨by repeat (first | (with_reducible first | exact HB.out | apply bA | apply bN | apply bD | refine bS ?_ GE368.out | refine bS ?_ GE369.out | refine bS ?_ GE378.out) | exact HB.out)⟩⟩
     replace c29 := Bool.eq_false_iff.mpr c29
     subst c29
     have H1 : (if x379002_2.length < 4398046511104 then (majordomoref06_Full.l0 k2 t374 (wrap64 (x10_2 + 1)) a0_0 a0_1 l0_2 a0_0 a0_1 (x379002_2 ++ [(⟨(rd_T81 t374 x10_2).f0, (rd_T81 t374 x10_2).f1⟩ : S31)])) else (none)) = some (r1, r2, r3, r4) := by rw [if_neg (show ¬ (false = true) by decide)] at H; exact H
     clear H
     have H := H1
     clear H1
     by_cases c38 : x379002_2.length < 4398046511104
     rotate_left
     · rw [if_neg c38] at H
       exact absurd H (by simp)
     rw [if_pos c38] at H
     have LMc38 := As.mk c38
     clear c38
     obtain ⟨y388, hy388⟩ : ∃ y_ : List (S31), y_ = (x379002_2 ++ [(⟨(rd_T81 t374 x10_2).f0, (rd_T81 t374 x10_2).f1⟩ : S31)]) := ⟨_, rfl⟩
     replace H : (majordomoref06_Full.l0 k2 t374 (wrap64 (x10_2 + 1)) a0_0 a0_1 l0_2 a0_0 a0_1 y388) = some (r1, r2, r3, r4) := by first | (rw [hy388]; with_reducible exact H) | (have H2_ := (Option.bind_some _ _).symm.trans H; rw [hy388]; with_reducible exact H2_) | (have H2_ := (Option.bind_some _ _).symm.trans H; with_reducible exact H2_) | with_reducible exact H | (rw [hy388]; exact H) | exact H
     have Ny388 := As.mk hy388
     clear hy388
     have H' := As.mk H
     clear H
     obtain ⟨Ao39, co39, eo39⟩ := Kd.R_slice HO_7.out
     subst eo39
     try go_wp2
     have n0_ := As.mk (Kd.R_drew HO_7.out)
     have n1_ := As.mk (Kd.R_drew HO_379002.out)
     have n2_ := As.mk (kD BK368.out)
     have n3_ := As.mk (kD BK369.out)
     have n4_ := As.mk (kD BK378.out)
     have n5_ := As.mk (bD HB.out)
     clear HO_7
     clear HO_379002
     clear BK368
     clear BK369
     clear BK378
     clear HB
     have HO_7 := n0_
     have HO_379002 := n1_
     have BK368 := n2_
     have BK369 := n3_
     have BK378 := n4_
     have HB := n5_
     clear n0_ n1_ n2_ n3_ n4_ n5_
     have p379 : 0 ≤ (x10_2 : Int) := of_decide_eq_true (by first | (with_reducible assumption) | assumption)
     have q379 : x10_2 < (t374.length : Int) := of_decide_eq_true (by first | (with_reducible assumption) | assumption)
     obtain ⟨ad379, e379, hx379_0, hx379_1, hx379_2⟩ := at_T81 (Kd.R_reads' HO_7.out).2.2 x10_2 p379 q379
     cases e379
     replace p379 := eq_true p379
     replace q379 := eq_true q379
     refine start_ (n := 12) (S := fun w' => w'.cell? ⟨gb368, 0, none⟩ = some (.string a0_0) ∧ w'.cell? ⟨gb368, 1, none⟩ = some (.string a0_1) ∧ w'.cell? ⟨gb368, 2, none⟩ = some (.slice A0_2 l0_2.length c0_2) ∧ w'.cell? (ad379.add ((x10_2).toNat * 3)) = some (.string ((rd_T81 t374 x10_2).f0)) ∧ w'.cell? ⟨(ad379.add ((x10_2).toNat * 3)).block, (ad379.add ((x10_2).toNat * 3)).off + 1, none⟩ = some (.string ((rd_T81 t374 x10_2).f1)) ∧ w'.cell? ⟨(ad379.add ((x10_2).toNat * 3)).block, (ad379.add ((x10_2).toNat * 3)).off + 2, none⟩ = some (.bool ((rd_T81 t374 x10_2).f2))) (ds := []) #[false, false, false, false, false, false, false, false, false, false, false, false] (by kernel_rfl) rfl rfl ⟨(kC BK368.out 0).trans rfl, (kC BK368.out 1).trans rfl, (kC BK368.out 2).trans rfl, hx379_0, hx379_1, hx379_2⟩ (fun hHeld => ?_); refine with_tabW majordomoref06_Full.tab12 majordomoref06_Full.bits12 (fun HT_ HW_ => ?_)
     generalize wr.drew = w40 at HO_7 HO_379002 BK368 BK369 BK378 HB hx379_0 hx379_1 hx379_2 hHeld ⊢
     refine pure_ (i := 1) (N := some 49) (v := ?_) (a' := ?_) #[false, true, false, false, false, false, false, false, false, false, false, false] rfl rfl (any_of HT_.out (by kernel_rfl)) (fun _ _ _ h => h) (Or.inl ⟨by rfl, ?_⟩) ?_ ?_
     rotate_left
     · intro w'
       go_simp
       with_reducible rfl
     rotate_left
     · simp only [Act.put, zA, zZ, zS, i64_w, i32_w]
       rfl
     refine pure_ (i := 2) (N := some 50) (v := ?_) (a' := ?_) #[false, true, true, false, false, false, false, false, false, false, false, false] rfl rfl (any_of HT_.out (by kernel_rfl)) (fun _ _ _ h => h) (Or.inl ⟨by rfl, ?_⟩) ?_ ?_
     rotate_left
     · intro w'
       go_simp
       with_reducible rfl
     rotate_left
     · simp only [Act.put, zA, zZ, zS, i64_w, i32_w]
       rfl
     refine pure_ (i := 3) (N := some 51) (v := ?_) (a' := ?_) #[false, true, true, true, false, false, false, false, false, false, false, false] rfl rfl (any_of HT_.out (by kernel_rfl)) (fun _ _ _ h => h) (Or.inl ⟨by rfl, ?_⟩) ?_ ?_
     rotate_left
     · intro w'
       go_simp
       with_reducible rfl
     rotate_left
     · simp only [Act.put, zA, zZ, zS, i64_w, i32_w]
       rfl
     refine pure_ (i := 4) (N := some 52) (v := ?_) (a' := ?_) #[false, true, true, true, true, false, false, false, false, false, false, false] rfl rfl (any_of HT_.out (by kernel_rfl)) (fun _ _ _ h => h) (Or.inl ⟨by rfl, ?_⟩) ?_ ?_
     rotate_left
     · intro w'
       go_simp
       with_reducible rfl
     rotate_left
     · simp only [Act.put, zA, zZ, zS, i64_w, i32_w]
       rfl
     refine take_ (i := 0) (N := some 48) (v := ?_) (a' := ?_) #[true, true, true, true, true, false, false, false, false, false, false, false] rfl rfl (take_ofW HT_.out HW_.out (by kernel_rfl)) (fun _ _ _ h => h) (Or.inl ⟨by rfl, ?_⟩) hHeld ?_ ?_
     rotate_left
     · rintro w' ⟨s0, s1, s2, s3, s4, s5⟩
       go_simp
       with_reducible rfl
     rotate_left
     · simp only [Act.put, zA, zZ, zS, i64_w, i32_w]
       rfl
     refine take_ (i := 5) (N := some 53) (v := ?_) (a' := ?_) #[true, true, true, true, true, true, false, false, false, false, false, false] rfl rfl (take_ofW HT_.out HW_.out (by kernel_rfl)) (fun _ _ _ h => h) (Or.inl ⟨by rfl, ?_⟩) hHeld ?_ ?_
     rotate_left
     · rintro w' ⟨s0, s1, s2, s3, s4, s5⟩
       go_simp
       with_reducible rfl
     rotate_left
     · simp only [Act.put, zA, zZ, zS, i64_w, i32_w]
       rfl
     refine one_ (i := 6) (N := some 54) #[true, true, true, true, true, true, true, false, false, false, false, false] rfl rfl (one_of HT_.out (by kernel_rfl)) (by decide) (fun K hK => ?_)
     refine goes_ Tryz.func32 (by kernel_rfl) rfl #[.agg #[.string a0_0, .string a0_1, .slice A0_2 l0_2.length c0_2], .string ((rd_T81 t374 x10_2).f0)] (by rfl) rfl rfl (by (try simp only [List.map_toArray, List.map_cons, List.map_nil]); first | done | rfl | (simp only [List.length_drop, List.length_take]; rfl)) ?_
     with_reducible refine (majordomoref06_Get.calls k2 a0_0 a0_1 _ _ l0_2 ((rd_T81 t374 x10_2).f0) t380 false _ ?side1 ?side2 A28.out).mono ?_
     (case side1 => repeat (first | exact (Kd.C_below HR0_2.out HB.out) | (with_reducible refine Kd.C_alloc ?_ _) | (with_reducible refine Kd.C_drewN ?_ _) | (with_reducible refine Kd.C_drew ?_)))
     (case side2 => exact HC0_2.out)
     rintro e w41 ⟨rfl, hb⟩
     have HS3_ := (hb.cell (World.block_lt_of_cell? _ _ (hHeld.2.2.2.1))).trans (hHeld.2.2.2.1)
     have HS4_ := (hb.cell (World.block_lt_of_cell? _ _ (hHeld.2.2.2.2.1))).trans (hHeld.2.2.2.2.1)
     have HS5_ := (hb.cell (World.block_lt_of_cell? _ _ (hHeld.2.2.2.2.2))).trans (hHeld.2.2.2.2.2)
     refine ⟨_, rfl, ?_⟩
     have n0_ := As.mk (Kd.R_below (by (with_reducible repeat (first | apply Kd.R_alloc | apply Kd.R_drewN | apply Kd.R_drew)); exact HO_7.out) hb)
     have n1_ := As.mk (Kd.R_below (by (with_reducible repeat (first | apply Kd.R_alloc | apply Kd.R_drewN | apply Kd.R_drew)); exact HO_379002.out) hb)
     have n2_ := As.mk (kB (g := gb368) (o := .cells #[.string a0_0, .string a0_1, .slice A0_2 l0_2.length c0_2] 24 (0, 0)) (by (with_reducible repeat (first | refine kN ?_ _ | refine kD ?_ | refine kA ?_ _)); exact BK368.out) hb)
     have n3_ := As.mk (kB (g := gb369) (o := .cells #[.string (⟨#[]⟩ : ByteArray), .string (⟨#[]⟩ : ByteArray), .slice none 0 0] 24 (0, 0)) (by (with_reducible repeat (first | refine kN ?_ _ | refine kD ?_ | refine kA ?_ _)); exact BK369.out) hb)
     have n4_ := As.mk (kB (g := gb378) (o := .cells #[.string a0_0, .string a0_1, u379002] 24 (0, 0)) (by (with_reducible repeat (first | refine kN ?_ _ | refine kD ?_ | refine kA ?_ _)); exact BK378.out) hb)
     have n5_ := As.mk (bT (by repeat (first | (with_reducible first | exact HB.out | apply bA | apply bN | apply bD | refine bS ?_ GE368.out | refine bS ?_ GE369.out | refine bS ?_ GE378.out) | exact HB.out)) hb)
     clear HO_7
     clear HO_379002
     clear BK368
     clear BK369
     clear BK378
     clear HB
     have HO_7 := n0_
     have HO_379002 := n1_
     have BK368 := n2_
     have BK369 := n3_
     have BK378 := n4_
     have HB := n5_
     clear n0_ n1_ n2_ n3_ n4_ n5_
     (try clear hb)
     (try clear hb2)
     (try clear hk)
     (try clear hi)
     refine hK.out _ _ ⟨(kC BK368.out 0).trans rfl, (kC BK368.out 1).trans rfl, (kC BK368.out 2).trans rfl, HS3_, HS4_, HS5_⟩ (fun hHeld => ?_)
     clear hK K
     refine norm_ (a' := ?_) ?_ ?_
     rotate_left
     · show Act.put _ (some 54) _ = _
       simp only [Act.put, zA, zZ, zS, i64_w, i32_w]
       rfl
     refine pure_ (i := 7) (N := some 47) (v := ?_) (a' := ?_) #[true, true, true, true, true, true, true, true, false, false, false, false] rfl rfl (any_of HT_.out (by kernel_rfl)) (fun _ _ _ h => h) (Or.inl ⟨by rfl, ?_⟩) ?_ ?_
     rotate_left
     · intro w'
       go_simp
       with_reducible rfl
     rotate_left
     · simp only [Act.put, zA, zZ, zS, i64_w, i32_w]
       rfl
     refine pure_ (i := 8) (N := some 55) (v := ?_) (a' := ?_) #[true, true, true, true, true, true, true, true, true, false, false, false] rfl rfl (any_of HT_.out (by kernel_rfl)) (fun _ _ _ h => h) (Or.inl ⟨by rfl, ?_⟩) ?_ ?_
     rotate_left
     · intro w'
       go_simp
       with_reducible rfl
     rotate_left
     · simp only [Act.put, zA, zZ, zS, i64_w, i32_w]
       rfl
     refine pure_ (i := 9) (N := some 56) (v := ?_) (a' := ?_) #[true, true, true, true, true, true, true, true, true, true, false, false] rfl rfl (any_of HT_.out (by kernel_rfl)) (fun _ _ _ h => h) (Or.inl ⟨by rfl, ?_⟩) ?_ ?_
     rotate_left
     · intro w'
       go_simp
       with_reducible rfl
     rotate_left
     · simp only [Act.put, zA, zZ, zS, i64_w, i32_w]
       rfl
     refine pure_ (i := 10) (N := some 11) (v := ?_) (a' := ?_) #[true, true, true, true, true, true, true, true, true, true, true, false] rfl rfl (any_of HT_.out (by kernel_rfl)) (fun _ _ _ h => h) (Or.inl ⟨by rfl, ?_⟩) ?_ ?_
     rotate_left
     · intro w'
       go_simp
       with_reducible rfl
     rotate_left
     · simp only [Act.put, zA, zZ, zS, i64_w, i32_w]
       rfl
     refine pure_ (i := 11) (N := some 12) (v := ?_) (a' := ?_) #[true, true, true, true, true, true, true, true, true, true, true, true] rfl rfl (any_of HT_.out (by kernel_rfl)) (fun _ _ _ h => h) (Or.inl ⟨by rfl, ?_⟩) ?_ ?_
     rotate_left
     · intro w'
       go_simp
       with_reducible rfl
     rotate_left
     · simp only [Act.put, zA, zZ, zS, i64_w, i32_w]
       rfl
     refine done_ (done_of HT_.out (by kernel_rfl)) ?_
     have p386 : 0 ≤ (x10_2 : Int) := of_decide_eq_true (by first | (with_reducible assumption) | assumption)
     have q386 : x10_2 < (t374.length : Int) := of_decide_eq_true (by first | (with_reducible assumption) | assumption)
     obtain ⟨ad386, e386, hx386_0, hx386_1, hx386_2⟩ := at_T81 (Kd.R_reads' HO_7.out).2.2 x10_2 p386 q386
     obtain rfl : ad379 = ad386 := (by injection e386)
     replace p386 := eq_true p386
     replace q386 := eq_true q386
     try go_wp2
     have n0_ := As.mk (Kd.R_drew HO_7.out)
     have n1_ := As.mk (Kd.R_drew HO_379002.out)
     have n2_ := As.mk (kD BK368.out)
     have n3_ := As.mk (kD BK369.out)
     have n4_ := As.mk (kD BK378.out)
     have n5_ := As.mk (bD HB.out)
     clear HO_7
     clear HO_379002
     clear BK368
     clear BK369
     clear BK378
     clear HB
     have HO_7 := n0_
     have HO_379002 := n1_
     have BK368 := n2_
     have BK369 := n3_
     have BK378 := n4_
     have HB := n5_
     clear n0_ n1_ n2_ n3_ n4_ n5_
     have p387 : 0 ≤ (x10_2 : Int) := of_decide_eq_true (by first | (with_reducible assumption) | assumption)
     have q387 : x10_2 < (t374.length : Int) := of_decide_eq_true (by first | (with_reducible assumption) | assumption)
     obtain ⟨ad387, e387, hx387_0, hx387_1, hx387_2⟩ := at_T81 (Kd.R_reads' HO_7.out).2.2 x10_2 p387 q387
     obtain rfl : ad379 = ad387 := (by injection e387)
     replace p387 := eq_true p387
     replace q387 := eq_true q387
     refine start_ (n := 13) (S := fun w' => w'.cell? ⟨gb378, 0, none⟩ = some (.string a0_0) ∧ w'.cell? ⟨gb378, 1, none⟩ = some (.string a0_1) ∧ w'.cell? ⟨gb378, 2, none⟩ = some (u379002) ∧ w'.cell? (ad379.add ((x10_2).toNat * 3)) = some (.string ((rd_T81 t374 x10_2).f0)) ∧ w'.cell? ⟨(ad379.add ((x10_2).toNat * 3)).block, (ad379.add ((x10_2).toNat * 3)).off + 1, none⟩ = some (.string ((rd_T81 t374 x10_2).f1)) ∧ w'.cell? ⟨(ad379.add ((x10_2).toNat * 3)).block, (ad379.add ((x10_2).toNat * 3)).off + 2, none⟩ = some (.bool ((rd_T81 t374 x10_2).f2))) (ds := [10, 12]) #[false, false, false, false, false, false, false, false, false, false, false, false, false] (by kernel_rfl) rfl rfl ⟨(kC BK378.out 0).trans rfl, (kC BK378.out 1).trans rfl, (kC BK378.out 2).trans rfl, hx387_0, hx387_1, hx387_2⟩ (fun hHeld => ?_); refine with_tabW majordomoref06_Full.tab15 majordomoref06_Full.bits15 (fun HT_ HW_ => ?_)
     generalize w41.drew = w42 at HO_7 HO_379002 BK368 BK369 BK378 HB hx387_0 hx387_1 hx387_2 hHeld ⊢
     refine pure_ (i := 0) (N := some 64) (v := ?_) (a' := ?_) #[true, false, false, false, false, false, false, false, false, false, false, false, false] rfl rfl (any_of HT_.out (by kernel_rfl)) (fun _ _ _ h => h) (Or.inl ⟨by rfl, ?_⟩) ?_ ?_
     rotate_left
     · intro w'
       go_simp
       with_reducible rfl
     rotate_left
     · simp only [Act.put, zA, zZ, zS, i64_w, i32_w]
       rfl
     refine pure_ (i := 2) (N := some 66) (v := ?_) (a' := ?_) #[true, false, true, false, false, false, false, false, false, false, false, false, false] rfl rfl (any_of HT_.out (by kernel_rfl)) (fun _ _ _ h => h) (Or.inl ⟨by rfl, ?_⟩) ?_ ?_
     rotate_left
     · intro w'
       go_simp
       with_reducible rfl
     rotate_left
     · simp only [Act.put, zA, zZ, zS, i64_w, i32_w]
       rfl
     refine pure_ (i := 3) (N := some 67) (v := ?_) (a' := ?_) #[true, false, true, true, false, false, false, false, false, false, false, false, false] rfl rfl (any_of HT_.out (by kernel_rfl)) (fun _ _ _ h => h) (Or.inl ⟨by rfl, ?_⟩) ?_ ?_
     rotate_left
     · intro w'
       go_simp
       with_reducible rfl
     rotate_left
     · simp only [Act.put, zA, zZ, zS, i64_w, i32_w]
       rfl
     refine pure_ (i := 4) (N := some 68) (v := ?_) (a' := ?_) #[true, false, true, true, true, false, false, false, false, false, false, false, false] rfl rfl (any_of HT_.out (by kernel_rfl)) (fun _ _ _ h => h) (Or.inl ⟨by rfl, ?_⟩) ?_ ?_
     rotate_left
     · intro w'
       go_simp
       with_reducible rfl
     rotate_left
     · simp only [Act.put, zA, zZ, zS, i64_w, i32_w]
       rfl
     refine pure_ (i := 5) (N := some 69) (v := ?_) (a' := ?_) #[true, false, true, true, true, true, false, false, false, false, false, false, false] rfl rfl (any_of HT_.out (by kernel_rfl)) (fun _ _ _ h => h) (Or.inl ⟨by rfl, ?_⟩) ?_ ?_
     rotate_left
     · intro w'
       go_simp
       with_reducible rfl
     rotate_left
     · simp only [Act.put, zA, zZ, zS, i64_w, i32_w]
       rfl
     refine pure_ (i := 7) (N := some 71) (v := ?_) (a' := ?_) #[true, false, true, true, true, true, false, true, false, false, false, false, false] rfl rfl (any_of HT_.out (by kernel_rfl)) (fun _ _ _ h => h) (Or.inl ⟨by rfl, ?_⟩) ?_ ?_
     rotate_left
     · intro w'
       go_simp
       with_reducible rfl
     rotate_left
     · simp only [Act.put, zA, zZ, zS, i64_w, i32_w]
       rfl
     refine take_ (i := 1) (N := some 65) (v := ?_) (a' := ?_) #[true, true, true, true, true, true, false, true, false, false, false, false, false] rfl rfl (take_ofW HT_.out HW_.out (by kernel_rfl)) (fun _ _ _ h => h) (Or.inl ⟨by rfl, ?_⟩) hHeld ?_ ?_
     rotate_left
     · rintro w' ⟨s0, s1, s2, s3, s4, s5⟩
       go_simp
       with_reducible rfl
     rotate_left
     · simp only [Act.put, zA, zZ, zS, i64_w, i32_w]
       rfl
     refine take_ (i := 6) (N := some 70) (v := ?_) (a' := ?_) #[true, true, true, true, true, true, true, true, false, false, false, false, false] rfl rfl (take_ofW HT_.out HW_.out (by kernel_rfl)) (fun _ _ _ h => h) (Or.inl ⟨by rfl, ?_⟩) hHeld ?_ ?_
     rotate_left
     · rintro w' ⟨s0, s1, s2, s3, s4, s5⟩
       go_simp
       with_reducible rfl
     rotate_left
     · simp only [Act.put, zA, zZ, zS, i64_w, i32_w]
       rfl
     refine pure_ (i := 8) (N := some 72) (v := ?_) (a' := ?_) #[true, true, true, true, true, true, true, true, true, false, false, false, false] rfl rfl (any_of HT_.out (by kernel_rfl)) (fun _ _ _ h => h) (Or.inl ⟨by rfl, ?_⟩) ?_ ?_
     rotate_left
     · intro w'
       go_simp
       with_reducible rfl
     rotate_left
     · simp only [Act.put, zA, zZ, zS, i64_w, i32_w]
       rfl
     refine one_ (i := 9) (N := some 73) #[true, true, true, true, true, true, true, true, true, true, false, false, false] rfl rfl (one_of HT_.out (by kernel_rfl)) (by decide) (fun K hK => ?_)
     refine value_ (w1 := ?_) (v := ?_) (by rfl) rfl ?_ ?_
     rotate_left 2
     · go_simp
       constructor
       · rfl
       · rfl
     refine hK.out _ _ ⟨(kC (kA BK378.out _) 0).trans rfl, (kC (kA BK378.out _) 1).trans rfl, (kC (kA BK378.out _) 2).trans rfl, (World.cell?_alloc_lt _ _ _ (World.block_lt_of_cell? _ _ (hHeld.2.2.2.1))).trans (hHeld.2.2.2.1), (World.cell?_alloc_lt _ _ _ (World.block_lt_of_cell? _ _ (hHeld.2.2.2.2.1))).trans (hHeld.2.2.2.2.1), (World.cell?_alloc_lt _ _ _ (World.block_lt_of_cell? _ _ (hHeld.2.2.2.2.2))).trans (hHeld.2.2.2.2.2)⟩ (fun hHeld => ?_)
     clear hK K
     refine norm_ (a' := ?_) ?_ ?_
     rotate_left
     · show Act.put _ (some 73) _ = _
       simp only [Act.put, zA, zZ, zS, i64_w, i32_w]
       rfl
     refine last_ (i := 10) (N := some 74) #[true, true, true, true, true, true, true, true, true, true, true, false, false] rfl rfl (one_of HT_.out (by kernel_rfl)) (by decide) (fun K hK => ?_)
     refine Kd.R_append_step k31 (w0 := w) w.heap.size (by rfl) (.tmp 65) (.tmp 73) 22 31 (.agg #[(.string ⟨#[]⟩), (.string ⟨#[]⟩)]) 32 rfl Tryz.underlying22 info31 rfl (by decide) (by omega) u379002 x379002_2 (⟨(rd_T81 t374 x10_2).f0, (rd_T81 t374 x10_2).f1⟩ : S31) [.string ((rd_T81 t374 x10_2).f0), .string ((rd_T81 t374 x10_2).f1)] (fun _ => True) (fun _ => False) rfl rfl ?aP (fun _ hk => hk.elim) ?aF ?aO ?aB ?aS ?aL ?_
     (case aP => exact k31_mkM _ _ _ (⟨(rd_T81 t374 x10_2).f0, (rd_T81 t374 x10_2).f1⟩ : S31))
     (case aB => exact (by repeat (first | (with_reducible first | exact HB.out | apply bA | apply bN | apply bD | refine bS ?_ GE368.out | refine bS ?_ GE369.out | refine bS ?_ GE378.out) | exact HB.out)))
     (case aF => exact (fun _ _ => trivial))
     (case aO => exact (by (with_reducible repeat (first | apply Kd.R_alloc | apply Kd.R_drewN | apply Kd.R_drew)); exact HO_379002.out))
     (case aS => exact (bZ (by repeat (first | (with_reducible first | exact HB.out | apply bA | apply bN | apply bD | refine bS ?_ GE368.out | refine bS ?_ GE369.out | refine bS ?_ GE378.out) | exact HB.out))))
     (case aL => have := LMc38.out; omega)
     intro v389 w43 ho hb hg hat
     rw [← Ny388.out] at ho
     have n0_ := As.mk (Kd.R_over' (by (with_reducible repeat (first | apply Kd.R_alloc | apply Kd.R_drewN | apply Kd.R_drew)); exact HO_7.out) (Kd.R_typed (by (with_reducible repeat (first | apply Kd.R_alloc | apply Kd.R_drewN | apply Kd.R_drew)); exact HO_379002.out)) (by decide) hg)
     have n1_ := As.mk (blk_grown (g := gb368) (o := .cells #[.string a0_0, .string a0_1, .slice A0_2 l0_2.length c0_2] 24 (0, 0)) (by (with_reducible repeat (first | refine kN ?_ _ | refine kD ?_ | refine kA ?_ _)); exact BK368.out) hg (Kd.R_ne HO_379002.out BK368.out (by decide)))
     have n2_ := As.mk (blk_grown (g := gb369) (o := .cells #[.string (⟨#[]⟩ : ByteArray), .string (⟨#[]⟩ : ByteArray), .slice none 0 0] 24 (0, 0)) (by (with_reducible repeat (first | refine kN ?_ _ | refine kD ?_ | refine kA ?_ _)); exact BK369.out) hg (Kd.R_ne HO_379002.out BK369.out (by decide)))
     have n3_ := As.mk (blk_grown (g := gb378) (o := .cells #[.string a0_0, .string a0_1, u379002] 24 (0, 0)) (by (with_reducible repeat (first | refine kN ?_ _ | refine kD ?_ | refine kA ?_ _)); exact BK378.out) hg (Kd.R_ne HO_379002.out BK378.out (by decide)))
     have n4_ := As.mk (hb)
     have n5_ := As.mk (ho)
     clear HO_7
     clear BK368
     clear BK369
     clear BK378
     clear HB
     clear HO_379002
     have HO_7 := n0_
     have BK368 := n1_
     have BK369 := n2_
     have BK378 := n3_
     have HB := n4_
     have HO390 := n5_
     clear n0_ n1_ n2_ n3_ n4_ n5_
     clear ho hb hg hat
     obtain ⟨Ao44, co44, eo44⟩ := Kd.R_slice HO390.out
     (first | subst eo44 | (injection eo44 with f1_ f2_ f3_; have f4_ := f1_.symm; have f5_ := f3_.symm; clear f1_ f2_ f3_; subst f4_; subst f5_))
     refine hK.out _ _ ?_
     clear hK K
     refine norm_ (a' := ?_) ?_ ?_
     rotate_left
     · show Act.put _ (some 74) _ = _
       simp only [Act.put, zA, zZ, zS, i64_w, i32_w]
       rfl
     refine pure_ (i := 11) (N := some 75) (v := ?_) (a' := ?_) #[true, true, true, true, true, true, true, true, true, true, true, true, false] rfl rfl (any_of HT_.out (by kernel_rfl)) (fun _ _ _ h => h) (Or.inl ⟨by rfl, ?_⟩) ?_ ?_
     rotate_left
     · intro w'
       go_simp
       with_reducible rfl
     rotate_left
     · simp only [Act.put, zA, zZ, zS, i64_w, i32_w]
       rfl
     refine last_ (i := 12) (N := none) #[true, true, true, true, true, true, true, true, true, true, true, true, true] rfl rfl (one_of HT_.out (by kernel_rfl)) (by decide) (fun K hK => ?_)
     have hs45 : w43.cell? ⟨gb378, 2, none⟩ = some (u379002) := (kC BK378.out 2).trans rfl
     have hfs45 := kF BK378.out 2
     have hns45_0 := NB368_378.out
     have hns45_1 := NB369_378.out
     have hms45_0 := NB378_368.out
     have hms45_1 := NB378_369.out
     refine skip_ (w1 := ?_) (by rfl) rfl ?_ ?_
     rotate_left
     · go_simp
       rfl
     refine hK.out _ _ ?_
     clear hK K
     refine done_ (done_of HT_.out (by kernel_rfl)) ?_
     try go_wp2
     go_roundg k2
     case measure => have := HJ4.out; have := HK2.out; omega
     case rel => exact ⟨(wrap64 (x10_2 + 1)), (y388), (.slice Ao44 y388.length co44), (by first | rfl | (simp; done) | (simp [*]; done)), H', ⟨by have := HJ4.out; have := HK2.out; omega⟩, ⟨by (with_reducible repeat (first | apply Kd.R_alloc | apply Kd.R_drewN | apply Kd.R_drew)); exact Kd.R_mono (Kd.R_far (p := ⟨gb378, 2, none⟩) (Kd.R_types HO_7.out BK378.out (by decide)) (fun _ hk => hk.2) (.slice Ao44 y388.length co44)) (fun _ hk => trivial)⟩, ⟨by (with_reducible repeat (first | apply Kd.R_alloc | apply Kd.R_drewN | apply Kd.R_drew)); exact Kd.R_mono (Kd.R_far (p := ⟨gb378, 2, none⟩) (Kd.R_types HO390.out BK378.out (by decide)) (fun _ hk => hk.2) (.slice Ao44 y388.length co44)) (fun _ hk => trivial)⟩, ⟨by (with_reducible repeat (first | refine kN ?_ _ | refine kD ?_ | refine kA ?_ _)); refine kR ?_ NB368_378.out _; (with_reducible repeat (first | refine kN ?_ _ | refine kD ?_ | refine kA ?_ _)); exact BK368.out⟩, ⟨by (with_reducible repeat (first | refine kN ?_ _ | refine kD ?_ | refine kA ?_ _)); refine kR ?_ NB369_378.out _; (with_reducible repeat (first | refine kN ?_ _ | refine kD ?_ | refine kA ?_ _)); exact BK369.out⟩, ⟨by (with_reducible repeat (first | refine kN ?_ _ | refine kD ?_ | refine kA ?_ _)); refine kP (cs := #[.string a0_0, .string a0_1, u379002]) ?_ 2 _ rfl; (with_reducible repeat (first | refine kN ?_ _ | refine kD ?_ | refine kA ?_ _)); exact BK378.out⟩, ⟨by repeat (first | (with_reducible first | exact HB.out | apply bA | apply bN | apply bD | refine bS ?_ GE368.out | refine bS ?_ GE369.out | refine bS ?_ GE378.out) | exact HB.out)⟩⟩
end Go.Proofs.YtkgafkoopefghaaGreatDoor.PA
end
