/- A part of this law; its conditions stand in the last text. -/
import Derived.Test.YtkgafkoopefghaaGreatDoorRc5
import Derived.Test.YtkgafkoopefghaaGreatDoorRc26
import Derived.Test.YtkgafkoopefghaaGreatDoorRc11
import Derived.Test.YtkgafkoopefghaaGreatDoorRc28
import Derived.Test.YtkgafkoopefghaaGreatDoorRc29
section
namespace Go.Proofs.YtkgafkoopefghaaGreatDoor.PA
open Go.RowKit Go.Proofs.YtkgafkoopefghaaGreatDoorW.PrintWords Go.Proofs.YtkgafkoopefghaaGreatDoorW.PrintLast Go.Proofs.YtkgafkoopefghaaGreatDoorW.PrintMore
open Go.Proofs.YtkgafkoopefghaaGreatDoor.Hk
attribute [local go_sem high] Go.Proofs.YtkgafkoopefghaaGreatDoor.Hk.binOp_leq_not
attribute [local go_sem] max2_int min2_int max_two min_two max_three min_three max_four min_four
set_option linter.unusedVariables false
set_option linter.unusedSimpArgs false
mutual
def majordomoref06_Check.j0 : Nat → ByteArray → ByteArray → ByteArray → List (S31) → Option (Int)
 | 0, _, _, _, _ => none
 | k + 1, x3, x349000, x349001, x349002 => (majordomoref06_rules.f x349000 x3).bind fun bt354 => (if bt354.2 = true then (majordomoref06_Check.l0 k bt354.1 0 x349000 x349001 x349002) else (some 62))
def majordomoref06_Check.l0 : Nat → List (S81) → Int → ByteArray → ByteArray → List (S31) → Option (Int)
 | 0, _, _, _, _, _ => none
 | k + 1, x5, x7, x349000, x349001, x349002 => if x7 < (x349002.length : Int) then (if 0 ≤ x7 then (majordomoref06_Check.l1 k x5 x7 false 0 x349000 x349001 x349002 ((rd_T31 x349002 x7).f0) ((rd_T31 x349002 x7).f1)) else (none)) else (majordomoref06_Check.l2 k x5 0 x349000 x349001 x349002)
def majordomoref06_Check.l1 : Nat → List (S81) → Int → Bool → Int → ByteArray → ByteArray → List (S31) → ByteArray → ByteArray → Option (Int)
 | 0, _, _, _, _, _, _, _, _, _ => none
 | k + 1, x5, x7, x9, x10, x349000, x349001, x349002, x360000, x360001 => if x10 < (x5.length : Int) then (if x9 = true then (majordomoref06_Check.l1 k x5 x7 true (wrap64 (x10 + 1)) x349000 x349001 x349002 x360000 x360001) else (if 0 ≤ x10 then (majordomoref06_Check.l1 k x5 x7 (((rd_T81 x5 x10).f0).toList == x360000.toList) (wrap64 (x10 + 1)) x349000 x349001 x349002 x360000 x360001) else (none))) else (if x9 = true then (if x7 > 0 then (if 0 ≤ (wrap64 (x7 - 1)) then (if (wrap64 (x7 - 1)) < (x349002.length : Int) then (if ((Op.bytesLess (((rd_T31 x349002 (wrap64 (x7 - 1))).f0).toList) x360000.toList) = true) then ((majordomoref06_value.f k x360000 x360001).bind fun t362 => (if t362 = true then (majordomoref06_Check.l0 k x5 (wrap64 (x7 + 1)) x349000 x349001 x349002) else (some 62))) else (some 62)) else (none)) else (none)) else ((majordomoref06_value.f k x360000 x360001).bind fun t363 => (if t363 = true then (majordomoref06_Check.l0 k x5 (wrap64 (x7 + 1)) x349000 x349001 x349002) else (some 62)))) else (some 62))
def majordomoref06_Check.l2 : Nat → List (S81) → Int → ByteArray → ByteArray → List (S31) → Option (Int)
 | 0, _, _, _, _, _ => none
 | k + 1, x5, x11, x349000, x349001, x349002 => if x11 < (x5.length : Int) then (if 0 ≤ x11 then ((majordomoref06_Get.f k x349000 x349001 x349002 ((rd_T81 x5 x11).f0)).bind fun bt365 => (if (rd_T81 x5 x11).f2 = true then (if bt365.2 = true then (majordomoref06_Check.l2 k x5 (wrap64 (x11 + 1)) x349000 x349001 x349002) else (some 62)) else (majordomoref06_Check.l2 k x5 (wrap64 (x11 + 1)) x349000 x349001 x349002))) else (none)) else (some 0)
end
def majordomoref06_Check.f (k : Nat) (a0_0 : ByteArray) (a0_1 : ByteArray) (l0_2 : List (S31)) : Option (Int) := (majordomoref06_first.f k a0_0).bind fun t349 => (if t349.toList = ([] : List UInt8) then (some 60) else ((majordomoref06_title.f k a0_0 a0_1).bind fun t350 => (if t350 = true then ((majordomoref06_Get.f k a0_0 a0_1 l0_2 (⟨#[101, 110, 115, 117, 114, 101]⟩ : ByteArray)).bind fun bt351 => (if bt351.2 = true then (majordomoref06_Check.j0 k bt351.1 a0_0 a0_1 l0_2) else ((majordomoref06_first.f k a0_0).bind fun t353 => (majordomoref06_Check.j0 k t353 a0_0 a0_1 l0_2)))) else (some 61))))
def majordomoref06_Check.T19 : Bool × List (List Nat × List Nat) := (true, [([], []), ([0], [0]), ([1], [1]), ([1], [1]), ([2, 3, 1], [1, 2, 3]), ([4, 1], [1, 4]), ([5, 1], [1, 5]), ([1], [1]), ([7, 1], [1, 7]), ([6, 8, 1], [1, 6, 8]), ([1, 9], [1, 9]), ([10, 1, 0, 1, 2, 3, 4, 5, 6, 7, 8, 9, 10], [0, 10])])
def majordomoref06_Check.B19 : List Nat := [0, 1, 3, 3, 15, 31, 63, 3, 131, 511, 1023, 2047]
theorem majordomoref06_Check.tab19 : rtab .any (opsOf Tryz.f15 19) = majordomoref06_Check.T19 := by kernel_rfl
theorem majordomoref06_Check.bits19 : waitsOk majordomoref06_Check.T19.2 majordomoref06_Check.B19 = true := by kernel_rfl
def majordomoref06_Check.T20 : Bool × List (List Nat × List Nat) := (true, [([], []), ([0], [0]), ([1], [1]), ([2], [2]), ([3, 2], [2, 3]), ([4, 2, 2], [2, 4]), ([5], [5]), ([6, 5], [5, 6]), ([5], [5]), ([8, 5], [5, 8]), ([5], [5]), ([10, 5], [5, 10]), ([9, 11, 5], [5, 9, 11]), ([12, 5], [5, 12]), ([13, 5], [5, 13]), ([7, 14, 5], [5, 7, 14]), ([5, 15, 2], [2, 5, 15]), ([2, 16], [2, 16]), ([17, 5], [17]), ([18], [18]), ([19, 18], [18, 19]), ([18], [18]), ([21, 18], [18, 21]), ([20, 22, 18, 18], [18, 20, 22]), ([23, 18], [18, 23]), ([18, 24], [18, 24])])
def majordomoref06_Check.B20 : List Nat := [0, 1, 3, 7, 15, 31, 63, 127, 63, 319, 63, 1087, 3903, 7999, 16191, 32767, 65535, 131071, 262143, 524287, 1048575, 524287, 2621439, 8388607, 16777215, 33554431]
theorem majordomoref06_Check.tab20 : rtab .any (opsOf Tryz.f15 20) = majordomoref06_Check.T20 := by kernel_rfl
theorem majordomoref06_Check.bits20 : waitsOk majordomoref06_Check.T20.2 majordomoref06_Check.B20 = true := by kernel_rfl
def majordomoref06_Check.T25 : Bool × List (List Nat × List Nat) := (true, [([], []), ([], []), ([], []), ([1, 2], [1, 2]), ([3], [3]), ([4], [4]), ([0, 5], [0, 5]), ([6], [6]), ([7], [7]), ([7], [7]), ([8, 6, 0, 1, 2, 3, 4, 5, 6, 7, 8], [8]), ([9, 10, 0, 1, 2, 3, 4, 5, 6, 7, 8, 9, 10], [9])])
def majordomoref06_Check.B25 : List Nat := [0, 0, 0, 6, 14, 30, 63, 127, 255, 255, 511, 2047]
theorem majordomoref06_Check.tab25 : rtab .any (opsOf Tryz.f15 25) = majordomoref06_Check.T25 := by kernel_rfl
theorem majordomoref06_Check.bits25 : waitsOk majordomoref06_Check.T25.2 majordomoref06_Check.B25 = true := by kernel_rfl
set_option maxHeartbeats 8000000 in
set_option maxRecDepth 100000 in
theorem majordomoref06_Check.calls (k : Nat) (a0_0 : ByteArray) (a0_1 : ByteArray) (A0_2 : Option Addr) (c0_2 : Nat) (l0_2 : List (S31)) (r : Int) (w : World) (hr0_2 : Kd.C k31 w A0_2 l0_2.length l0_2) (hc0_2 : l0_2.length ≤ c0_2) (h : majordomoref06_Check.f k a0_0 a0_1 l0_2 = some r) :
 Calls Tryz.prog 15 #[.agg #[.string a0_0, .string a0_1, .slice A0_2 l0_2.length c0_2]] w fun e w' => e = .returned (.int .i64 r) ∧ Below w.heap.size w w' := by
 have hu24 := Tryz.underlying24
 have hu31 := Tryz.underlying31
 have HR0_2 := As.mk hr0_2
 have HC0_2 := As.mk hc0_2
 clear hr0_2 hc0_2
 have HB := As.mk (Below.refl w.heap.size w)
 have H : ((majordomoref06_first.f k a0_0).bind fun t349 => (if t349.toList = ([] : List UInt8) then (some 60) else ((majordomoref06_title.f k a0_0 a0_1).bind fun t350 => (if t350 = true then ((majordomoref06_Get.f k a0_0 a0_1 l0_2 (⟨#[101, 110, 115, 117, 114, 101]⟩ : ByteArray)).bind fun bt351 => (if bt351.2 = true then (majordomoref06_Check.j0 k bt351.1 a0_0 a0_1 l0_2) else ((majordomoref06_first.f k a0_0).bind fun t353 => (majordomoref06_Check.j0 k t353 a0_0 a0_1 l0_2)))) else (some 61))))) = some r := h
 clear h
 replace H := Option.bind_eq_some_iff.mp H
 obtain ⟨t349, A20, H⟩ := H
 replace H : (if t349.toList = ([] : List UInt8) then (some 60) else ((majordomoref06_title.f k a0_0 a0_1).bind fun t350 => (if t350 = true then ((majordomoref06_Get.f k a0_0 a0_1 l0_2 (⟨#[101, 110, 115, 117, 114, 101]⟩ : ByteArray)).bind fun bt351 => (if bt351.2 = true then (majordomoref06_Check.j0 k bt351.1 a0_0 a0_1 l0_2) else ((majordomoref06_first.f k a0_0).bind fun t353 => (majordomoref06_Check.j0 k t353 a0_0 a0_1 l0_2)))) else (some 61)))) = some r := H
 have A2 := As.mk A20
 clear A20
 by_cases c3 : t349.toList = ([] : List UInt8)
 · rw [if_pos c3] at H
   have c3b0 : (t349.toList == ([] : List UInt8)) = true := beq_iff_eq.mpr c3
   have c3b1 : (t349.toList != ([] : List UInt8)) = false := bne_eq_false_iff_eq.mpr c3
   clear c3
   obtain rfl := Option.some.inj H
   go_enter Tryz.func15, Tryz.ntmps15
   go_wp2_with (first | ((with_reducible refine gate_dst (N := 1) rfl ?_); refine box_event ?hg (N := 1) ?hd (cs := #[.string a0_0, .string a0_1, .slice A0_2 l0_2.length c0_2]) (t := 24) ?hr ?_; (case hd => rfl); (case hg => rfl); (case hr => first | (go_simp; done) | (go_simp; rfl)); intro gb348 hg w4 hbox hb; have n0_ := As.mk (bT (by repeat (first | (with_reducible first | exact HB.out | apply bA | apply bN | apply bD) | exact HB.out)) hb); have n1_ := As.mk (hbox); have n2_ := As.mk ((by rw [hg]; exact (bZ (by repeat (first | (with_reducible first | exact HB.out | apply bA | apply bN | apply bD) | exact HB.out))) : w.heap.size ≤ gb348)); have n3_ := As.mk ((by rw [hg]; exact (bZ (by repeat (first | (with_reducible first | exact HB.out | apply bA | apply bN | apply bD) | exact HB.out))) : w.heap.size ≤ gb348)); clear HB; have HB := n0_; have BK348 := n1_; have GW348 := n2_; have GE348 := n3_; clear n0_ n1_ n2_ n3_; clear hb hbox hg; have hcz5_0 : w4.cell? ⟨gb348, 0, none⟩ = some (.string a0_0) := (kC BK348.out 0).trans rfl; have hcz5_1 : w4.cell? ⟨gb348, 1, none⟩ = some (.string a0_1) := (kC BK348.out 1).trans rfl; have hcz5_2 : w4.cell? ⟨gb348, 2, none⟩ = some (.slice A0_2 l0_2.length c0_2) := (kC BK348.out 2).trans rfl; have hfz5_0 := kF BK348.out 0; have hfz5_1 := kF BK348.out 1; have hfz5_2 := kF BK348.out 2) | ((with_reducible refine gate_callee (f := 33) rfl ?_); refine goesL_ (some 16) rfl rfl Tryz.func33 (by kernel_rfl) rfl #[.string a0_0] rfl (by (try simp only [List.map_toArray, List.map_cons, List.map_nil]); first | done | rfl | (simp only [List.length_drop, List.length_take]; rfl)) ?_; (with_reducible refine (majordomoref06_first.calls k a0_0 t349 _ A2.out).mono ?_); rintro e w' ⟨rfl, ⟨nd, rfl⟩⟩; refine ⟨_, rfl, ?_⟩))
   go_ret
   exact ⟨by first | rfl | (simp [errW_none, errW_some] <;> rfl) | (simp [*, errW_none, errW_some] <;> rfl), by repeat (first | (with_reducible first | exact HB.out | apply bA | apply bN | apply bD | refine bS ?_ GE348.out) | exact HB.out)⟩
 rw [if_neg c3] at H
 have c3b0 : (t349.toList == ([] : List UInt8)) = false := beq_eq_false_iff_ne.mpr c3
 have c3b1 : (t349.toList != ([] : List UInt8)) = true := bne_iff_ne.mpr c3
 replace H := Option.bind_eq_some_iff.mp H
 obtain ⟨t350, A60, H⟩ := H
 replace H : (if t350 = true then ((majordomoref06_Get.f k a0_0 a0_1 l0_2 (⟨#[101, 110, 115, 117, 114, 101]⟩ : ByteArray)).bind fun bt351 => (if bt351.2 = true then (majordomoref06_Check.j0 k bt351.1 a0_0 a0_1 l0_2) else ((majordomoref06_first.f k a0_0).bind fun t353 => (majordomoref06_Check.j0 k t353 a0_0 a0_1 l0_2)))) else (some 61)) = some r := H
 have A6 := As.mk A60
 clear A60
 by_cases c7 : t350 = true
 rotate_left
 · replace c7 := Bool.eq_false_iff.mpr c7
   subst c7
   have H1 : (some 61) = some r := by rw [if_neg (show ¬ (false = true) by decide)] at H; exact H
   clear H
   have H := H1
   clear H1
   obtain rfl := Option.some.inj H
   go_enter Tryz.func15, Tryz.ntmps15
   go_wp2_with (first | ((with_reducible refine gate_dst (N := 1) rfl ?_); refine box_event ?hg (N := 1) ?hd (cs := #[.string a0_0, .string a0_1, .slice A0_2 l0_2.length c0_2]) (t := 24) ?hr ?_; (case hd => rfl); (case hg => rfl); (case hr => first | (go_simp; done) | (go_simp; rfl)); intro gb348 hg w80 hbox hb; have n0_ := As.mk (bT (by repeat (first | (with_reducible first | exact HB.out | apply bA | apply bN | apply bD) | exact HB.out)) hb); have n1_ := As.mk (hbox); have n2_ := As.mk ((by rw [hg]; exact (bZ (by repeat (first | (with_reducible first | exact HB.out | apply bA | apply bN | apply bD) | exact HB.out))) : w.heap.size ≤ gb348)); have n3_ := As.mk ((by rw [hg]; exact (bZ (by repeat (first | (with_reducible first | exact HB.out | apply bA | apply bN | apply bD) | exact HB.out))) : w.heap.size ≤ gb348)); clear HB; have HB := n0_; have BK348 := n1_; have GW348 := n2_; have GE348 := n3_; clear n0_ n1_ n2_ n3_; clear hb hbox hg; have hcz81_0 : w80.cell? ⟨gb348, 0, none⟩ = some (.string a0_0) := (kC BK348.out 0).trans rfl; have hcz81_1 : w80.cell? ⟨gb348, 1, none⟩ = some (.string a0_1) := (kC BK348.out 1).trans rfl; have hcz81_2 : w80.cell? ⟨gb348, 2, none⟩ = some (.slice A0_2 l0_2.length c0_2) := (kC BK348.out 2).trans rfl; have hfz81_0 := kF BK348.out 0; have hfz81_1 := kF BK348.out 1; have hfz81_2 := kF BK348.out 2) | ((with_reducible refine gate_callee (f := 33) rfl ?_); refine goesL_ (some 16) rfl rfl Tryz.func33 (by kernel_rfl) rfl #[.string a0_0] rfl (by (try simp only [List.map_toArray, List.map_cons, List.map_nil]); first | done | rfl | (simp only [List.length_drop, List.length_take]; rfl)) ?_; (with_reducible refine (majordomoref06_first.calls k a0_0 t349 _ A2.out).mono ?_); rintro e w' ⟨rfl, ⟨nd, rfl⟩⟩; refine ⟨_, rfl, ?_⟩) | ((with_reducible refine gate_callee (f := 35) rfl ?_); refine goesL_ (some 22) rfl rfl Tryz.func35 (by kernel_rfl) rfl #[.string a0_0, .string a0_1] rfl (by (try simp only [List.map_toArray, List.map_cons, List.map_nil]); first | done | rfl | (simp only [List.length_drop, List.length_take]; rfl)) ?_; (with_reducible refine (majordomoref06_title.calls k a0_0 a0_1 false _ A6.out).mono ?_); rintro e w82 ⟨rfl, hb⟩; refine ⟨_, rfl, ?_⟩; have n0_ := As.mk (kB (g := gb348) (o := .cells #[.string a0_0, .string a0_1, .slice A0_2 l0_2.length c0_2] 24 (0, 0)) (by (with_reducible repeat (first | refine kN ?_ _ | refine kD ?_ | refine kA ?_ _)); exact BK348.out) hb); have n1_ := As.mk (bT (by repeat (first | (with_reducible first | exact HB.out | apply bA | apply bN | apply bD | refine bS ?_ GE348.out) | exact HB.out)) hb); clear BK348; clear HB; have BK348 := n0_; have HB := n1_; clear n0_ n1_; (try clear hb); (try clear hb2); (try clear hk); (try clear hi)))
   go_ret
   exact ⟨by first | rfl | (simp [errW_none, errW_some] <;> rfl) | (simp [*, errW_none, errW_some] <;> rfl), by repeat (first | (with_reducible first | exact HB.out | apply bA | apply bN | apply bD | refine bS ?_ GE348.out) | exact HB.out)⟩
 subst c7
 have H1 : ((majordomoref06_Get.f k a0_0 a0_1 l0_2 (⟨#[101, 110, 115, 117, 114, 101]⟩ : ByteArray)).bind fun bt351 => (if bt351.2 = true then (majordomoref06_Check.j0 k bt351.1 a0_0 a0_1 l0_2) else ((majordomoref06_first.f k a0_0).bind fun t353 => (majordomoref06_Check.j0 k t353 a0_0 a0_1 l0_2)))) = some r := by rw [if_pos rfl] at H; exact H
 clear H
 have H := H1
 clear H1
 replace H := Option.bind_eq_some_iff.mp H
 obtain ⟨⟨t351, t352⟩, A80, H⟩ := H
 replace H : (if t352 = true then (majordomoref06_Check.j0 k t351 a0_0 a0_1 l0_2) else ((majordomoref06_first.f k a0_0).bind fun t353 => (majordomoref06_Check.j0 k t353 a0_0 a0_1 l0_2))) = some r := H
 have A8 := As.mk A80
 clear A80
 have HC9 := As.mk H
 clear H
 go_enter Tryz.func15, Tryz.ntmps15
 go_upto_if 30 with (first | ((with_reducible refine gate_dst (N := 1) rfl ?_); refine box_event ?hg (N := 1) ?hd (cs := #[.string a0_0, .string a0_1, .slice A0_2 l0_2.length c0_2]) (t := 24) ?hr ?_; (case hd => rfl); (case hg => rfl); (case hr => first | (go_simp; done) | (go_simp; rfl)); intro gb348 hg w10 hbox hb; have n0_ := As.mk (bT (by repeat (first | (with_reducible first | exact HB.out | apply bA | apply bN | apply bD) | exact HB.out)) hb); have n1_ := As.mk (hbox); have n2_ := As.mk ((by rw [hg]; exact (bZ (by repeat (first | (with_reducible first | exact HB.out | apply bA | apply bN | apply bD) | exact HB.out))) : w.heap.size ≤ gb348)); have n3_ := As.mk ((by rw [hg]; exact (bZ (by repeat (first | (with_reducible first | exact HB.out | apply bA | apply bN | apply bD) | exact HB.out))) : w.heap.size ≤ gb348)); clear HB; have HB := n0_; have BK348 := n1_; have GW348 := n2_; have GE348 := n3_; clear n0_ n1_ n2_ n3_; clear hb hbox hg; have hcz11_0 : w10.cell? ⟨gb348, 0, none⟩ = some (.string a0_0) := (kC BK348.out 0).trans rfl; have hcz11_1 : w10.cell? ⟨gb348, 1, none⟩ = some (.string a0_1) := (kC BK348.out 1).trans rfl; have hcz11_2 : w10.cell? ⟨gb348, 2, none⟩ = some (.slice A0_2 l0_2.length c0_2) := (kC BK348.out 2).trans rfl; have hfz11_0 := kF BK348.out 0; have hfz11_1 := kF BK348.out 1; have hfz11_2 := kF BK348.out 2) | ((with_reducible refine gate_callee (f := 33) rfl ?_); refine goesL_ (some 16) rfl rfl Tryz.func33 (by kernel_rfl) rfl #[.string a0_0] rfl (by (try simp only [List.map_toArray, List.map_cons, List.map_nil]); first | done | rfl | (simp only [List.length_drop, List.length_take]; rfl)) ?_; (with_reducible refine (majordomoref06_first.calls k a0_0 t349 _ A2.out).mono ?_); rintro e w' ⟨rfl, ⟨nd, rfl⟩⟩; refine ⟨_, rfl, ?_⟩) | ((with_reducible refine gate_callee (f := 35) rfl ?_); refine goesL_ (some 22) rfl rfl Tryz.func35 (by kernel_rfl) rfl #[.string a0_0, .string a0_1] rfl (by (try simp only [List.map_toArray, List.map_cons, List.map_nil]); first | done | rfl | (simp only [List.length_drop, List.length_take]; rfl)) ?_; (with_reducible refine (majordomoref06_title.calls k a0_0 a0_1 true _ A6.out).mono ?_); rintro e w12 ⟨rfl, hb⟩; refine ⟨_, rfl, ?_⟩; have n0_ := As.mk (kB (g := gb348) (o := .cells #[.string a0_0, .string a0_1, .slice A0_2 l0_2.length c0_2] 24 (0, 0)) (by (with_reducible repeat (first | refine kN ?_ _ | refine kD ?_ | refine kA ?_ _)); exact BK348.out) hb); have n1_ := As.mk (bT (by repeat (first | (with_reducible first | exact HB.out | apply bA | apply bN | apply bD | refine bS ?_ GE348.out) | exact HB.out)) hb); clear BK348; clear HB; have BK348 := n0_; have HB := n1_; clear n0_ n1_; (try clear hb); (try clear hb2); (try clear hk); (try clear hi); have hcz13_0 : w12.cell? ⟨gb348, 0, none⟩ = some (.string a0_0) := (kC BK348.out 0).trans rfl; have hcz13_1 : w12.cell? ⟨gb348, 1, none⟩ = some (.string a0_1) := (kC BK348.out 1).trans rfl; have hcz13_2 : w12.cell? ⟨gb348, 2, none⟩ = some (.slice A0_2 l0_2.length c0_2) := (kC BK348.out 2).trans rfl; have hfz13_0 := kF BK348.out 0; have hfz13_1 := kF BK348.out 1; have hfz13_2 := kF BK348.out 2) | ((with_reducible refine gate_callee (f := 32) rfl ?_); refine goesL_ (some 26) rfl rfl Tryz.func32 (by kernel_rfl) rfl #[.agg #[.string a0_0, .string a0_1, .slice A0_2 l0_2.length c0_2], .string (⟨#[101, 110, 115, 117, 114, 101]⟩ : ByteArray)] rfl (by (try simp only [List.map_toArray, List.map_cons, List.map_nil]); first | done | rfl | (simp only [List.length_drop, List.length_take]; rfl)) ?_; (with_reducible refine (majordomoref06_Get.calls k a0_0 a0_1 _ _ l0_2 (⟨#[101, 110, 115, 117, 114, 101]⟩ : ByteArray) t351 t352 _ ?side1 ?side2 A8.out).mono ?_); (case side1 => repeat (first | exact (Kd.C_below HR0_2.out HB.out) | (with_reducible refine Kd.C_alloc ?_ _) | (with_reducible refine Kd.C_drewN ?_ _) | (with_reducible refine Kd.C_drew ?_))); (case side2 => exact HC0_2.out); rintro e w14 ⟨rfl, hb⟩; refine ⟨_, rfl, ?_⟩; have n0_ := As.mk (kB (g := gb348) (o := .cells #[.string a0_0, .string a0_1, .slice A0_2 l0_2.length c0_2] 24 (0, 0)) (by (with_reducible repeat (first | refine kN ?_ _ | refine kD ?_ | refine kA ?_ _)); exact BK348.out) hb); have n1_ := As.mk (bT (by repeat (first | (with_reducible first | exact HB.out | apply bA | apply bN | apply bD | refine bS ?_ GE348.out) | exact HB.out)) hb); clear BK348; clear HB; have BK348 := n0_; have HB := n1_; clear n0_ n1_; (try clear hb); (try clear hb2); (try clear hk); (try clear hi)))
 (try simp only [Act.put, zA, zZ, zS])
 go_cut [3] (fun v3 wc => ∃ (kq : Nat) (x3_8 : ByteArray), v3 = .string x3_8 ∧ As (majordomoref06_Check.j0 kq x3_8 a0_0 a0_1 l0_2 = some r) ∧ As (kq ≤ k) ∧ As (wc.heap[gb348]? = some (.cells #[.string a0_0, .string a0_1, (.slice A0_2 l0_2.length c0_2)] 24 (0, 0))) ∧ As (Below w.heap.size w wc))
 case first =>
  have H := HC9.out
  clear HC9
  by_cases c15 : t352 = true
  · subst c15
    have H1 : (majordomoref06_Check.j0 k t351 a0_0 a0_1 l0_2) = some r := by rw [if_pos rfl] at H; exact H
    clear H
    have H := H1
    clear H1
    have H' := As.mk H
    clear H
    go_wp2
    go_meet
    case rel => exact ⟨_, (t351), (by first | rfl | (simp; done) | (simp [*]; done)), H', ⟨by first | omega | exact Nat.le_refl _⟩, ⟨by (with_reducible repeat (first | refine kN ?_ _ | refine kD ?_ | refine kA ?_ _)); exact BK348.out⟩, ⟨by repeat (first | (with_reducible first | exact HB.out | apply bA | apply bN | apply bD | refine bS ?_ GE348.out) | exact HB.out)⟩⟩
  replace c15 := Bool.eq_false_iff.mpr c15
  subst c15
  have H1 : ((majordomoref06_first.f k a0_0).bind fun t353 => (majordomoref06_Check.j0 k t353 a0_0 a0_1 l0_2)) = some r := by rw [if_neg (show ¬ (false = true) by decide)] at H; exact H
  clear H
  have H := H1
  clear H1
  replace H := Option.bind_eq_some_iff.mp H
  obtain ⟨t353, A160, H⟩ := H
  replace H : (majordomoref06_Check.j0 k t353 a0_0 a0_1 l0_2) = some r := H
  have A16 := As.mk A160
  clear A160
  have H' := As.mk H
  clear H
  have hcz17_0 : w14.cell? ⟨gb348, 0, none⟩ = some (.string a0_0) := (kC BK348.out 0).trans rfl
  have hcz17_1 : w14.cell? ⟨gb348, 1, none⟩ = some (.string a0_1) := (kC BK348.out 1).trans rfl
  have hcz17_2 : w14.cell? ⟨gb348, 2, none⟩ = some (.slice A0_2 l0_2.length c0_2) := (kC BK348.out 2).trans rfl
  have hfz17_0 := kF BK348.out 0
  have hfz17_1 := kF BK348.out 1
  have hfz17_2 := kF BK348.out 2
  go_wp2_with (first | ((with_reducible refine gate_callee (f := 33) rfl ?_); refine goesL_ (some 33) rfl rfl Tryz.func33 (by kernel_rfl) rfl #[.string a0_0] rfl (by (try simp only [List.map_toArray, List.map_cons, List.map_nil]); first | done | rfl | (simp only [List.length_drop, List.length_take]; rfl)) ?_; (with_reducible refine (majordomoref06_first.calls k a0_0 t353 _ A16.out).mono ?_); rintro e w' ⟨rfl, ⟨nd, rfl⟩⟩; refine ⟨_, rfl, ?_⟩))
  go_meet
  case rel => exact ⟨_, (t353), (by first | rfl | (simp; done) | (simp [*]; done)), H', ⟨by first | omega | exact Nat.le_refl _⟩, ⟨by (with_reducible repeat (first | refine kN ?_ _ | refine kD ?_ | refine kA ?_ _)); exact BK348.out⟩, ⟨by repeat (first | (with_reducible first | exact HB.out | apply bA | apply bN | apply bD | refine bS ?_ GE348.out) | exact HB.out)⟩⟩
 case rest =>
  clear HC9
  try clear c1
  try clear p2
  try clear c3
  try clear c3b0
  try clear c3b1
  try clear c7
  try clear c15
  try clear hcz11_0
  try clear hcz11_1
  try clear hcz11_2
  try clear hcz13_0
  try clear hcz13_1
  try clear hcz13_2
  try clear hcz17_0
  try clear hcz17_1
  try clear hcz17_2
  try clear hcz5_0
  try clear hcz5_1
  try clear hcz5_2
  try clear hfz11_0
  try clear hfz11_1
  try clear hfz11_2
  try clear hfz13_0
  try clear hfz13_1
  try clear hfz13_2
  try clear hfz17_0
  try clear hfz17_1
  try clear hfz17_2
  try clear hfz5_0
  try clear hfz5_1
  try clear hfz5_2
  obtain ⟨kq, x3_8, rfl, HA, HJ8, BK348, HB⟩ := hcut
  cases kq with
  | zero => exact absurd HA.out (by simp [majordomoref06_Check.j0])
  | succ kj8 =>
   have H := HA.out
   clear HA
   simp only [majordomoref06_Check.j0] at H
   replace H := Option.bind_eq_some_iff.mp H
   obtain ⟨⟨t354, t355⟩, A180, H⟩ := H
   replace H : (if t355 = true then (majordomoref06_Check.l0 kj8 t354 0 a0_0 a0_1 l0_2) else (some 62)) = some r := H
   have A18 := As.mk A180
   clear A180
   by_cases c19 : t355 = true
   rotate_left
   · replace c19 := Bool.eq_false_iff.mpr c19
     subst c19
     have H1 : (some 62) = some r := by rw [if_neg (show ¬ (false = true) by decide)] at H; exact H
     clear H
     have H := H1
     clear H1
     obtain rfl := Option.some.inj H
     have hcz78_0 : wc.cell? ⟨gb348, 0, none⟩ = some (.string a0_0) := (kC BK348.out 0).trans rfl
     have hcz78_1 : wc.cell? ⟨gb348, 1, none⟩ = some (.string a0_1) := (kC BK348.out 1).trans rfl
     have hcz78_2 : wc.cell? ⟨gb348, 2, none⟩ = some (.slice A0_2 l0_2.length c0_2) := (kC BK348.out 2).trans rfl
     have hfz78_0 := kF BK348.out 0
     have hfz78_1 := kF BK348.out 1
     have hfz78_2 := kF BK348.out 2
     go_wp2_with (first | ((with_reducible refine gate_callee (f := 34) rfl ?_); refine goesL_ (some 38) rfl rfl Tryz.func34 (by kernel_rfl) rfl #[.string a0_0, .string x3_8] rfl (by (try simp only [List.map_toArray, List.map_cons, List.map_nil]); first | done | rfl | (simp only [List.length_drop, List.length_take]; rfl)) ?_; (with_reducible refine (majordomoref06_rules.calls a0_0 x3_8 t354 false _ A18.out).mono ?_); rintro e w79 ⟨v356, rfl, ho0, hb⟩; refine ⟨_, rfl, ?_⟩; have n0_ := As.mk (Kd.R_lower ho0 (bZ (by repeat (first | (with_reducible first | exact HB.out | apply bA | apply bN | apply bD | refine bS ?_ GE348.out) | exact HB.out)))); have n1_ := As.mk (kB (g := gb348) (o := .cells #[.string a0_0, .string a0_1, .slice A0_2 l0_2.length c0_2] 24 (0, 0)) (by (with_reducible repeat (first | refine kN ?_ _ | refine kD ?_ | refine kA ?_ _)); exact BK348.out) hb); have n2_ := As.mk (bT (by repeat (first | (with_reducible first | exact HB.out | apply bA | apply bN | apply bD | refine bS ?_ GE348.out) | exact HB.out)) hb); clear BK348; clear HB; have HO357 := n0_; have BK348 := n1_; have HB := n2_; clear n0_ n1_ n2_; (try clear hb); (try clear hb2); (try clear hk); (try clear hi); (try clear ho0)))
     go_ret
     exact ⟨by first | rfl | (simp [errW_none, errW_some] <;> rfl) | (simp [*, errW_none, errW_some] <;> rfl), by repeat (first | (with_reducible first | exact HB.out | apply bA | apply bN | apply bD | refine bS ?_ GE348.out) | exact HB.out)⟩
   subst c19
   have H1 : (majordomoref06_Check.l0 kj8 t354 0 a0_0 a0_1 l0_2) = some r := by rw [if_pos rfl] at H; exact H
   clear H
   have H := H1
   clear H1
   have H' := As.mk H
   clear H
   have hcz20_0 : wc.cell? ⟨gb348, 0, none⟩ = some (.string a0_0) := (kC BK348.out 0).trans rfl
   have hcz20_1 : wc.cell? ⟨gb348, 1, none⟩ = some (.string a0_1) := (kC BK348.out 1).trans rfl
   have hcz20_2 : wc.cell? ⟨gb348, 2, none⟩ = some (.slice A0_2 l0_2.length c0_2) := (kC BK348.out 2).trans rfl
   have hfz20_0 := kF BK348.out 0
   have hfz20_1 := kF BK348.out 1
   have hfz20_2 := kF BK348.out 2
   go_wp2_with (first | ((with_reducible refine gate_callee (f := 34) rfl ?_); refine goesL_ (some 38) rfl rfl Tryz.func34 (by kernel_rfl) rfl #[.string a0_0, .string x3_8] rfl (by (try simp only [List.map_toArray, List.map_cons, List.map_nil]); first | done | rfl | (simp only [List.length_drop, List.length_take]; rfl)) ?_; (with_reducible refine (majordomoref06_rules.calls a0_0 x3_8 t354 true _ A18.out).mono ?_); rintro e w21 ⟨v356, rfl, ho0, hb⟩; refine ⟨_, rfl, ?_⟩; have n0_ := As.mk (Kd.R_lower ho0 (bZ (by repeat (first | (with_reducible first | exact HB.out | apply bA | apply bN | apply bD | refine bS ?_ GE348.out) | exact HB.out)))); have n1_ := As.mk (kB (g := gb348) (o := .cells #[.string a0_0, .string a0_1, .slice A0_2 l0_2.length c0_2] 24 (0, 0)) (by (with_reducible repeat (first | refine kN ?_ _ | refine kD ?_ | refine kA ?_ _)); exact BK348.out) hb); have n2_ := As.mk (bT (by repeat (first | (with_reducible first | exact HB.out | apply bA | apply bN | apply bD | refine bS ?_ GE348.out) | exact HB.out)) hb); clear BK348; clear HB; have HO357 := n0_; have BK348 := n1_; have HB := n2_; clear n0_ n1_ n2_; (try clear hb); (try clear hb2); (try clear hk); (try clear hi); (try clear ho0)))
   go_loopg [7] kj8 (fun kq v7 w' => ∃ (x7_2 : Int), v7 = .int .i64 x7_2 ∧ As (majordomoref06_Check.l0 kq t354 x7_2 a0_0 a0_1 l0_2 = some r) ∧ As (kq ≤ kj8) ∧ As (Kd.R k81 81 w' w.heap.size (fun _ => True) v356 t354) ∧ As (w'.heap[gb348]? = some (.cells #[.string a0_0, .string a0_1, (.slice A0_2 l0_2.length c0_2)] 24 (0, 0))) ∧ As (Below w.heap.size w w'))
   case atStart => exact ⟨(0), (by first | rfl | (simp; done) | (simp [*]; done)), H', ⟨Nat.le_refl _⟩, ⟨by (with_reducible repeat (first | apply Kd.R_alloc | apply Kd.R_drewN | apply Kd.R_drew)); exact HO357.out⟩, ⟨by (with_reducible repeat (first | refine kN ?_ _ | refine kD ?_ | refine kA ?_ _)); exact BK348.out⟩, ⟨by repeat (first | (with_reducible first | exact HB.out | apply bA | apply bN | apply bD | refine bS ?_ GE348.out) | exact HB.out)⟩⟩
   case round =>
    clear H'
    try clear c1
    try clear p2
    try clear c3
    try clear c3b0
    try clear c3b1
    try clear c7
    try clear c15
    try clear c19
    try clear hcz11_0
    try clear hcz11_1
    try clear hcz11_2
    try clear hcz13_0
    try clear hcz13_1
    try clear hcz13_2
    try clear hcz17_0
    try clear hcz17_1
    try clear hcz17_2
    try clear hcz20_0
    try clear hcz20_1
    try clear hcz20_2
    try clear hcz5_0
    try clear hcz5_1
    try clear hcz5_2
    try clear hfz11_0
    try clear hfz11_1
    try clear hfz11_2
    try clear hfz13_0
    try clear hfz13_1
    try clear hfz13_2
    try clear hfz17_0
    try clear hfz17_1
    try clear hfz17_2
    try clear hfz20_0
    try clear hfz20_1
    try clear hfz20_2
    try clear hfz5_0
    try clear hfz5_1
    try clear hfz5_2
    try clear p2
    obtain ⟨x7_2, rfl, HA, HK2, HO_5, BK348, HB⟩ := hrel
    cases gk with
    | zero => exact absurd HA.out (by simp [majordomoref06_Check.l0])
    | succ k2 =>
     have H := HA.out
     clear HA
     simp only [majordomoref06_Check.l0] at H
     by_cases c22 : x7_2 < (l0_2.length : Int)
     rotate_left
     · rw [if_neg c22] at H
       have c22b0 : decide (x7_2 < (l0_2.length : Int)) = false := decide_eq_false c22
       clear c22
       have H' := As.mk H
       clear H
       have hcz61_0 : wr.cell? ⟨gb348, 0, none⟩ = some (.string a0_0) := (kC BK348.out 0).trans rfl
       have hcz61_1 : wr.cell? ⟨gb348, 1, none⟩ = some (.string a0_1) := (kC BK348.out 1).trans rfl
       have hcz61_2 : wr.cell? ⟨gb348, 2, none⟩ = some (.slice A0_2 l0_2.length c0_2) := (kC BK348.out 2).trans rfl
       have hfz61_0 := kF BK348.out 0
       have hfz61_1 := kF BK348.out 1
       have hfz61_2 := kF BK348.out 2
       go_wp2
       go_loopg [11] k2 (fun kq v11 w' => ∃ (x11_3 : Int), v11 = .int .i64 x11_3 ∧ As (majordomoref06_Check.l2 kq t354 x11_3 a0_0 a0_1 l0_2 = some r) ∧ As (kq ≤ k2) ∧ As (Kd.R k81 81 w' w.heap.size (fun _ => True) v356 t354) ∧ As (w'.heap[gb348]? = some (.cells #[.string a0_0, .string a0_1, (.slice A0_2 l0_2.length c0_2)] 24 (0, 0))) ∧ As (Below w.heap.size w w'))
       case atStart => exact ⟨(0), (by first | rfl | (simp; done) | (simp [*]; done)), H', ⟨Nat.le_refl _⟩, ⟨by (with_reducible repeat (first | apply Kd.R_alloc | apply Kd.R_drewN | apply Kd.R_drew)); exact HO_5.out⟩, ⟨by (with_reducible repeat (first | refine kN ?_ _ | refine kD ?_ | refine kA ?_ _)); exact BK348.out⟩, ⟨by repeat (first | (with_reducible first | exact HB.out | apply bA | apply bN | apply bD | refine bS ?_ GE348.out) | exact HB.out)⟩⟩
       case round =>
        clear H'
        try clear c2
        try clear p2
        try clear c3
        try clear c5
        try clear p6
        try clear c22
        try clear c22b0
        try clear c23
        try clear c35
        try clear c36
        try clear c52
        try clear hcz61_0
        try clear hcz61_1
        try clear hcz61_2
        try clear hfz61_0
        try clear hfz61_1
        try clear hfz61_2
        obtain ⟨x11_3, rfl, HA, HK3, HO_5, BK348, HB⟩ := hrel
        cases gk with
        | zero => exact absurd HA.out (by simp [majordomoref06_Check.l2])
        | succ k3 =>
         have H := HA.out
         clear HA
         simp only [majordomoref06_Check.l2] at H
         by_cases c62 : x11_3 < (t354.length : Int)
         rotate_left
         · rw [if_neg c62] at H
           have c62b0 : decide (x11_3 < (t354.length : Int)) = false := decide_eq_false c62
           clear c62
           obtain rfl := Option.some.inj H
           obtain ⟨Ao77, co77, eo77⟩ := Kd.R_slice HO_5.out
           subst eo77
           go_wp2
           go_ret
           exact ⟨by first | rfl | (simp [errW_none, errW_some] <;> rfl) | (simp [*, errW_none, errW_some] <;> rfl), by repeat (first | (with_reducible first | exact HB.out | apply bA | apply bN | apply bD | refine bS ?_ GE348.out) | exact HB.out)⟩
         rw [if_pos c62] at H
         have c62b0 : decide (x11_3 < (t354.length : Int)) = true := decide_eq_true c62
         clear c62
         by_cases c63 : 0 ≤ x11_3
         rotate_left
         · rw [if_neg c63] at H
           exact absurd H (by simp)
         rw [if_pos c63] at H
         have c63b0 : decide (0 ≤ x11_3) = true := decide_eq_true c63
         clear c63
         replace H := Option.bind_eq_some_iff.mp H
         obtain ⟨⟨t365, t366⟩, A640, H⟩ := H
         replace H : (if (rd_T81 t354 x11_3).f2 = true then (if t366 = true then (majordomoref06_Check.l2 k3 t354 (wrap64 (x11_3 + 1)) a0_0 a0_1 l0_2) else (some 62)) else (majordomoref06_Check.l2 k3 t354 (wrap64 (x11_3 + 1)) a0_0 a0_1 l0_2)) = some r := H
         have A64 := As.mk A640
         clear A640
         obtain ⟨bq65, hbq65⟩ : ∃ b_ : Bool, b_ = ((rd_T81 t354 x11_3).f2) := ⟨_, rfl⟩
         replace H : (if bq65 = true then (if t366 = true then (majordomoref06_Check.l2 k3 t354 (wrap64 (x11_3 + 1)) a0_0 a0_1 l0_2) else (some 62)) else (majordomoref06_Check.l2 k3 t354 (wrap64 (x11_3 + 1)) a0_0 a0_1 l0_2)) = some r := by rw [← hbq65] at H; exact H
         have Nbq65 := As.mk hbq65
         clear hbq65
         by_cases c66 : bq65 = true
         rotate_left
         · replace c66 := Bool.eq_false_iff.mpr c66
           subst c66
           have H1 : (majordomoref06_Check.l2 k3 t354 (wrap64 (x11_3 + 1)) a0_0 a0_1 l0_2) = some r := by rw [if_neg (show ¬ (false = true) by decide)] at H; exact H
           clear H
           have H := H1
           clear H1
           have H' := As.mk H
           clear H
           obtain ⟨Ao74, co74, eo74⟩ := Kd.R_slice HO_5.out
           subst eo74
           try go_wp2
           have n0_ := As.mk (Kd.R_drew HO_5.out)
           have n1_ := As.mk (kD BK348.out)
           have n2_ := As.mk (bD HB.out)
           clear HO_5
           clear BK348
           clear HB
           have HO_5 := n0_
           have BK348 := n1_
           have HB := n2_
           clear n0_ n1_ n2_
           have p364 : 0 ≤ (x11_3 : Int) := of_decide_eq_true (by first | (with_reducible assumption) | assumption)
           have q364 : x11_3 < (t354.length : Int) := of_decide_eq_true (by first | (with_reducible assumption) | assumption)
           obtain ⟨ad364, e364, hx364_0, hx364_1, hx364_2⟩ := at_T81 (Kd.R_reads' HO_5.out).2.2 x11_3 p364 q364
           (try rw [← Nbq65.out] at hx364_2)
           cases e364
           replace p364 := eq_true p364
           replace q364 := eq_true q364
           refine start_ (n := 12) (S := fun w' => w'.cell? ⟨gb348, 0, none⟩ = some (.string a0_0) ∧ w'.cell? ⟨gb348, 1, none⟩ = some (.string a0_1) ∧ w'.cell? ⟨gb348, 2, none⟩ = some (.slice A0_2 l0_2.length c0_2) ∧ w'.cell? (ad364.add ((x11_3).toNat * 3)) = some (.string ((rd_T81 t354 x11_3).f0)) ∧ w'.cell? ⟨(ad364.add ((x11_3).toNat * 3)).block, (ad364.add ((x11_3).toNat * 3)).off + 1, none⟩ = some (.string ((rd_T81 t354 x11_3).f1)) ∧ w'.cell? ⟨(ad364.add ((x11_3).toNat * 3)).block, (ad364.add ((x11_3).toNat * 3)).off + 2, none⟩ = some (.bool false)) (ds := []) #[false, false, false, false, false, false, false, false, false, false, false, false] (by kernel_rfl) rfl rfl ⟨(kC BK348.out 0).trans rfl, (kC BK348.out 1).trans rfl, (kC BK348.out 2).trans rfl, hx364_0, hx364_1, hx364_2⟩ (fun hHeld => ?_); refine with_tabW majordomoref06_Check.tab25 majordomoref06_Check.bits25 (fun HT_ HW_ => ?_)
           generalize wr.drew = w75 at HO_5 BK348 HB hx364_0 hx364_1 hx364_2 hHeld ⊢
           refine pure_ (i := 1) (N := some 106) (v := ?_) (a' := ?_) #[false, true, false, false, false, false, false, false, false, false, false, false] rfl rfl (any_of HT_.out (by kernel_rfl)) (fun _ _ _ h => h) (Or.inl ⟨by rfl, ?_⟩) ?_ ?_
           rotate_left
           · intro w'
             go_simp
             with_reducible rfl
           rotate_left
           · simp only [Act.put, zA, zZ, zS, i64_w, i32_w]
             rfl
           refine pure_ (i := 2) (N := some 107) (v := ?_) (a' := ?_) #[false, true, true, false, false, false, false, false, false, false, false, false] rfl rfl (any_of HT_.out (by kernel_rfl)) (fun _ _ _ h => h) (Or.inl ⟨by rfl, ?_⟩) ?_ ?_
           rotate_left
           · intro w'
             go_simp
             with_reducible rfl
           rotate_left
           · simp only [Act.put, zA, zZ, zS, i64_w, i32_w]
             rfl
           refine pure_ (i := 3) (N := some 108) (v := ?_) (a' := ?_) #[false, true, true, true, false, false, false, false, false, false, false, false] rfl rfl (any_of HT_.out (by kernel_rfl)) (fun _ _ _ h => h) (Or.inl ⟨by rfl, ?_⟩) ?_ ?_
           rotate_left
           · intro w'
             go_simp
             with_reducible rfl
           rotate_left
           · simp only [Act.put, zA, zZ, zS, i64_w, i32_w]
             rfl
           refine pure_ (i := 4) (N := some 109) (v := ?_) (a' := ?_) #[false, true, true, true, true, false, false, false, false, false, false, false] rfl rfl (any_of HT_.out (by kernel_rfl)) (fun _ _ _ h => h) (Or.inl ⟨by rfl, ?_⟩) ?_ ?_
           rotate_left
           · intro w'
             go_simp
             with_reducible rfl
           rotate_left
           · simp only [Act.put, zA, zZ, zS, i64_w, i32_w]
             rfl
           refine take_ (i := 0) (N := some 105) (v := ?_) (a' := ?_) #[true, true, true, true, true, false, false, false, false, false, false, false] rfl rfl (take_ofW HT_.out HW_.out (by kernel_rfl)) (fun _ _ _ h => h) (Or.inl ⟨by rfl, ?_⟩) hHeld ?_ ?_
           rotate_left
           · rintro w' ⟨s0, s1, s2, s3, s4, s5⟩
             go_simp
             with_reducible rfl
           rotate_left
           · simp only [Act.put, zA, zZ, zS, i64_w, i32_w]
             rfl
           refine take_ (i := 5) (N := some 110) (v := ?_) (a' := ?_) #[true, true, true, true, true, true, false, false, false, false, false, false] rfl rfl (take_ofW HT_.out HW_.out (by kernel_rfl)) (fun _ _ _ h => h) (Or.inl ⟨by rfl, ?_⟩) hHeld ?_ ?_
           rotate_left
           · rintro w' ⟨s0, s1, s2, s3, s4, s5⟩
             go_simp
             with_reducible rfl
           rotate_left
           · simp only [Act.put, zA, zZ, zS, i64_w, i32_w]
             rfl
           refine one_ (i := 6) (N := some 111) #[true, true, true, true, true, true, true, false, false, false, false, false] rfl rfl (one_of HT_.out (by kernel_rfl)) (by decide) (fun K hK => ?_)
           refine goes_ Tryz.func32 (by kernel_rfl) rfl #[.agg #[.string a0_0, .string a0_1, .slice A0_2 l0_2.length c0_2], .string ((rd_T81 t354 x11_3).f0)] (by rfl) rfl rfl (by (try simp only [List.map_toArray, List.map_cons, List.map_nil]); first | done | rfl | (simp only [List.length_drop, List.length_take]; rfl)) ?_
           with_reducible refine (majordomoref06_Get.calls k3 a0_0 a0_1 _ _ l0_2 ((rd_T81 t354 x11_3).f0) t365 t366 _ ?side1 ?side2 A64.out).mono ?_
           (case side1 => repeat (first | exact (Kd.C_below HR0_2.out HB.out) | (with_reducible refine Kd.C_alloc ?_ _) | (with_reducible refine Kd.C_drewN ?_ _) | (with_reducible refine Kd.C_drew ?_)))
           (case side2 => exact HC0_2.out)
           rintro e w76 ⟨rfl, hb⟩
           have HS3_ := (hb.cell (World.block_lt_of_cell? _ _ (hHeld.2.2.2.1))).trans (hHeld.2.2.2.1)
           have HS4_ := (hb.cell (World.block_lt_of_cell? _ _ (hHeld.2.2.2.2.1))).trans (hHeld.2.2.2.2.1)
           have HS5_ := (hb.cell (World.block_lt_of_cell? _ _ (hHeld.2.2.2.2.2))).trans (hHeld.2.2.2.2.2)
           refine ⟨_, rfl, ?_⟩
           have n0_ := As.mk (Kd.R_below (by (with_reducible repeat (first | apply Kd.R_alloc | apply Kd.R_drewN | apply Kd.R_drew)); exact HO_5.out) hb)
           have n1_ := As.mk (kB (g := gb348) (o := .cells #[.string a0_0, .string a0_1, .slice A0_2 l0_2.length c0_2] 24 (0, 0)) (by (with_reducible repeat (first | refine kN ?_ _ | refine kD ?_ | refine kA ?_ _)); exact BK348.out) hb)
           have n2_ := As.mk (bT (by repeat (first | (with_reducible first | exact HB.out | apply bA | apply bN | apply bD | refine bS ?_ GE348.out) | exact HB.out)) hb)
           clear HO_5
           clear BK348
           clear HB
           have HO_5 := n0_
           have BK348 := n1_
           have HB := n2_
           clear n0_ n1_ n2_
           (try clear hb)
           (try clear hb2)
           (try clear hk)
           (try clear hi)
           refine hK.out _ _ ⟨(kC BK348.out 0).trans rfl, (kC BK348.out 1).trans rfl, (kC BK348.out 2).trans rfl, HS3_, HS4_, HS5_⟩ (fun hHeld => ?_)
           clear hK K
           refine norm_ (a' := ?_) ?_ ?_
           rotate_left
           · show Act.put _ (some 111) _ = _
             simp only [Act.put, zA, zZ, zS, i64_w, i32_w]
             rfl
           refine pure_ (i := 7) (N := some 104) (v := ?_) (a' := ?_) #[true, true, true, true, true, true, true, true, false, false, false, false] rfl rfl (any_of HT_.out (by kernel_rfl)) (fun _ _ _ h => h) (Or.inl ⟨by rfl, ?_⟩) ?_ ?_
           rotate_left
           · intro w'
             go_simp
             with_reducible rfl
           rotate_left
           · simp only [Act.put, zA, zZ, zS, i64_w, i32_w]
             rfl
           refine pure_ (i := 8) (N := some 112) (v := ?_) (a' := ?_) #[true, true, true, true, true, true, true, true, true, false, false, false] rfl rfl (any_of HT_.out (by kernel_rfl)) (fun _ _ _ h => h) (Or.inl ⟨by rfl, ?_⟩) ?_ ?_
           rotate_left
           · intro w'
             go_simp
             with_reducible rfl
           rotate_left
           · simp only [Act.put, zA, zZ, zS, i64_w, i32_w]
             rfl
           refine pure_ (i := 9) (N := some 113) (v := ?_) (a' := ?_) #[true, true, true, true, true, true, true, true, true, true, false, false] rfl rfl (any_of HT_.out (by kernel_rfl)) (fun _ _ _ h => h) (Or.inl ⟨by rfl, ?_⟩) ?_ ?_
           rotate_left
           · intro w'
             go_simp
             with_reducible rfl
           rotate_left
           · simp only [Act.put, zA, zZ, zS, i64_w, i32_w]
             rfl
           refine pure_ (i := 10) (N := some 12) (v := ?_) (a' := ?_) #[true, true, true, true, true, true, true, true, true, true, true, false] rfl rfl (any_of HT_.out (by kernel_rfl)) (fun _ _ _ h => h) (Or.inl ⟨by rfl, ?_⟩) ?_ ?_
           rotate_left
           · intro w'
             go_simp
             with_reducible rfl
           rotate_left
           · simp only [Act.put, zA, zZ, zS, i64_w, i32_w]
             rfl
           refine pure_ (i := 11) (N := some 13) (v := ?_) (a' := ?_) #[true, true, true, true, true, true, true, true, true, true, true, true] rfl rfl (any_of HT_.out (by kernel_rfl)) (fun _ _ _ h => h) (Or.inl ⟨by rfl, ?_⟩) ?_ ?_
           rotate_left
           · intro w'
             go_simp
             with_reducible rfl
           rotate_left
           · simp only [Act.put, zA, zZ, zS, i64_w, i32_w]
             rfl
           refine done_ (done_of HT_.out (by kernel_rfl)) ?_
           have p367 : 0 ≤ (x11_3 : Int) := of_decide_eq_true (by first | (with_reducible assumption) | assumption)
           have q367 : x11_3 < (t354.length : Int) := of_decide_eq_true (by first | (with_reducible assumption) | assumption)
           obtain ⟨ad367, e367, hx367_0, hx367_1, hx367_2⟩ := at_T81 (Kd.R_reads' HO_5.out).2.2 x11_3 p367 q367
           (try rw [← Nbq65.out] at hx367_2)
           obtain rfl : ad364 = ad367 := (by injection e367)
           replace p367 := eq_true p367
           replace q367 := eq_true q367
           try go_wp2
           go_roundg k3
           case measure => have := HJ8.out; have := HK2.out; have := HK3.out; omega
           case rel => exact ⟨(wrap64 (x11_3 + 1)), (by first | rfl | (simp; done) | (simp [*]; done)), H', ⟨by have := HJ8.out; have := HK2.out; have := HK3.out; omega⟩, ⟨by (with_reducible repeat (first | apply Kd.R_alloc | apply Kd.R_drewN | apply Kd.R_drew)); exact HO_5.out⟩, ⟨by (with_reducible repeat (first | refine kN ?_ _ | refine kD ?_ | refine kA ?_ _)); exact BK348.out⟩, ⟨by repeat (first | (with_reducible first | exact HB.out | apply bA | apply bN | apply bD | refine bS ?_ GE348.out) | exact HB.out)⟩⟩
         subst c66
         have H1 : (if t366 = true then (majordomoref06_Check.l2 k3 t354 (wrap64 (x11_3 + 1)) a0_0 a0_1 l0_2) else (some 62)) = some r := by rw [if_pos rfl] at H; exact H
         clear H
         have H := H1
         clear H1
         by_cases c67 : t366 = true
         rotate_left
         · replace c67 := Bool.eq_false_iff.mpr c67
           subst c67
           have H1 : (some 62) = some r := by rw [if_neg (show ¬ (false = true) by decide)] at H; exact H
           clear H
           have H := H1
           clear H1
           obtain rfl := Option.some.inj H
           obtain ⟨Ao71, co71, eo71⟩ := Kd.R_slice HO_5.out
           subst eo71
           try go_wp2
           have n0_ := As.mk (Kd.R_drew HO_5.out)
           have n1_ := As.mk (kD BK348.out)
           have n2_ := As.mk (bD HB.out)
           clear HO_5
           clear BK348
           clear HB
           have HO_5 := n0_
           have BK348 := n1_
           have HB := n2_
           clear n0_ n1_ n2_
           have p364 : 0 ≤ (x11_3 : Int) := of_decide_eq_true (by first | (with_reducible assumption) | assumption)
           have q364 : x11_3 < (t354.length : Int) := of_decide_eq_true (by first | (with_reducible assumption) | assumption)
           obtain ⟨ad364, e364, hx364_0, hx364_1, hx364_2⟩ := at_T81 (Kd.R_reads' HO_5.out).2.2 x11_3 p364 q364
           (try rw [← Nbq65.out] at hx364_2)
           cases e364
           replace p364 := eq_true p364
           replace q364 := eq_true q364
           refine start_ (n := 12) (S := fun w' => w'.cell? ⟨gb348, 0, none⟩ = some (.string a0_0) ∧ w'.cell? ⟨gb348, 1, none⟩ = some (.string a0_1) ∧ w'.cell? ⟨gb348, 2, none⟩ = some (.slice A0_2 l0_2.length c0_2) ∧ w'.cell? (ad364.add ((x11_3).toNat * 3)) = some (.string ((rd_T81 t354 x11_3).f0)) ∧ w'.cell? ⟨(ad364.add ((x11_3).toNat * 3)).block, (ad364.add ((x11_3).toNat * 3)).off + 1, none⟩ = some (.string ((rd_T81 t354 x11_3).f1)) ∧ w'.cell? ⟨(ad364.add ((x11_3).toNat * 3)).block, (ad364.add ((x11_3).toNat * 3)).off + 2, none⟩ = some (.bool true)) (ds := []) #[false, false, false, false, false, false, false, false, false, false, false, false] (by kernel_rfl) rfl rfl ⟨(kC BK348.out 0).trans rfl, (kC BK348.out 1).trans rfl, (kC BK348.out 2).trans rfl, hx364_0, hx364_1, hx364_2⟩ (fun hHeld => ?_); refine with_tabW majordomoref06_Check.tab25 majordomoref06_Check.bits25 (fun HT_ HW_ => ?_)
           generalize wr.drew = w72 at HO_5 BK348 HB hx364_0 hx364_1 hx364_2 hHeld ⊢
           refine pure_ (i := 1) (N := some 106) (v := ?_) (a' := ?_) #[false, true, false, false, false, false, false, false, false, false, false, false] rfl rfl (any_of HT_.out (by kernel_rfl)) (fun _ _ _ h => h) (Or.inl ⟨by rfl, ?_⟩) ?_ ?_
           rotate_left
           · intro w'
             go_simp
             with_reducible rfl
           rotate_left
           · simp only [Act.put, zA, zZ, zS, i64_w, i32_w]
             rfl
           refine pure_ (i := 2) (N := some 107) (v := ?_) (a' := ?_) #[false, true, true, false, false, false, false, false, false, false, false, false] rfl rfl (any_of HT_.out (by kernel_rfl)) (fun _ _ _ h => h) (Or.inl ⟨by rfl, ?_⟩) ?_ ?_
           rotate_left
           · intro w'
             go_simp
             with_reducible rfl
           rotate_left
           · simp only [Act.put, zA, zZ, zS, i64_w, i32_w]
             rfl
           refine pure_ (i := 3) (N := some 108) (v := ?_) (a' := ?_) #[false, true, true, true, false, false, false, false, false, false, false, false] rfl rfl (any_of HT_.out (by kernel_rfl)) (fun _ _ _ h => h) (Or.inl ⟨by rfl, ?_⟩) ?_ ?_
           rotate_left
           · intro w'
             go_simp
             with_reducible rfl
           rotate_left
           · simp only [Act.put, zA, zZ, zS, i64_w, i32_w]
             rfl
           refine pure_ (i := 4) (N := some 109) (v := ?_) (a' := ?_) #[false, true, true, true, true, false, false, false, false, false, false, false] rfl rfl (any_of HT_.out (by kernel_rfl)) (fun _ _ _ h => h) (Or.inl ⟨by rfl, ?_⟩) ?_ ?_
           rotate_left
           · intro w'
             go_simp
             with_reducible rfl
           rotate_left
           · simp only [Act.put, zA, zZ, zS, i64_w, i32_w]
             rfl
           refine take_ (i := 0) (N := some 105) (v := ?_) (a' := ?_) #[true, true, true, true, true, false, false, false, false, false, false, false] rfl rfl (take_ofW HT_.out HW_.out (by kernel_rfl)) (fun _ _ _ h => h) (Or.inl ⟨by rfl, ?_⟩) hHeld ?_ ?_
           rotate_left
           · rintro w' ⟨s0, s1, s2, s3, s4, s5⟩
             go_simp
             with_reducible rfl
           rotate_left
           · simp only [Act.put, zA, zZ, zS, i64_w, i32_w]
             rfl
           refine take_ (i := 5) (N := some 110) (v := ?_) (a' := ?_) #[true, true, true, true, true, true, false, false, false, false, false, false] rfl rfl (take_ofW HT_.out HW_.out (by kernel_rfl)) (fun _ _ _ h => h) (Or.inl ⟨by rfl, ?_⟩) hHeld ?_ ?_
           rotate_left
           · rintro w' ⟨s0, s1, s2, s3, s4, s5⟩
             go_simp
             with_reducible rfl
           rotate_left
           · simp only [Act.put, zA, zZ, zS, i64_w, i32_w]
             rfl
           refine one_ (i := 6) (N := some 111) #[true, true, true, true, true, true, true, false, false, false, false, false] rfl rfl (one_of HT_.out (by kernel_rfl)) (by decide) (fun K hK => ?_)
           refine goes_ Tryz.func32 (by kernel_rfl) rfl #[.agg #[.string a0_0, .string a0_1, .slice A0_2 l0_2.length c0_2], .string ((rd_T81 t354 x11_3).f0)] (by rfl) rfl rfl (by (try simp only [List.map_toArray, List.map_cons, List.map_nil]); first | done | rfl | (simp only [List.length_drop, List.length_take]; rfl)) ?_
           with_reducible refine (majordomoref06_Get.calls k3 a0_0 a0_1 _ _ l0_2 ((rd_T81 t354 x11_3).f0) t365 false _ ?side1 ?side2 A64.out).mono ?_
           (case side1 => repeat (first | exact (Kd.C_below HR0_2.out HB.out) | (with_reducible refine Kd.C_alloc ?_ _) | (with_reducible refine Kd.C_drewN ?_ _) | (with_reducible refine Kd.C_drew ?_)))
           (case side2 => exact HC0_2.out)
           rintro e w73 ⟨rfl, hb⟩
           have HS3_ := (hb.cell (World.block_lt_of_cell? _ _ (hHeld.2.2.2.1))).trans (hHeld.2.2.2.1)
           have HS4_ := (hb.cell (World.block_lt_of_cell? _ _ (hHeld.2.2.2.2.1))).trans (hHeld.2.2.2.2.1)
           have HS5_ := (hb.cell (World.block_lt_of_cell? _ _ (hHeld.2.2.2.2.2))).trans (hHeld.2.2.2.2.2)
           refine ⟨_, rfl, ?_⟩
           have n0_ := As.mk (Kd.R_below (by (with_reducible repeat (first | apply Kd.R_alloc | apply Kd.R_drewN | apply Kd.R_drew)); exact HO_5.out) hb)
           have n1_ := As.mk (kB (g := gb348) (o := .cells #[.string a0_0, .string a0_1, .slice A0_2 l0_2.length c0_2] 24 (0, 0)) (by (with_reducible repeat (first | refine kN ?_ _ | refine kD ?_ | refine kA ?_ _)); exact BK348.out) hb)
           have n2_ := As.mk (bT (by repeat (first | (with_reducible first | exact HB.out | apply bA | apply bN | apply bD | refine bS ?_ GE348.out) | exact HB.out)) hb)
           clear HO_5
           clear BK348
           clear HB
           have HO_5 := n0_
           have BK348 := n1_
           have HB := n2_
           clear n0_ n1_ n2_
           (try clear hb)
           (try clear hb2)
           (try clear hk)
           (try clear hi)
           refine hK.out _ _ ⟨(kC BK348.out 0).trans rfl, (kC BK348.out 1).trans rfl, (kC BK348.out 2).trans rfl, HS3_, HS4_, HS5_⟩ (fun hHeld => ?_)
           clear hK K
           refine norm_ (a' := ?_) ?_ ?_
           rotate_left
           · show Act.put _ (some 111) _ = _
             simp only [Act.put, zA, zZ, zS, i64_w, i32_w]
             rfl
           refine pure_ (i := 7) (N := some 104) (v := ?_) (a' := ?_) #[true, true, true, true, true, true, true, true, false, false, false, false] rfl rfl (any_of HT_.out (by kernel_rfl)) (fun _ _ _ h => h) (Or.inl ⟨by rfl, ?_⟩) ?_ ?_
           rotate_left
           · intro w'
             go_simp
             with_reducible rfl
           rotate_left
           · simp only [Act.put, zA, zZ, zS, i64_w, i32_w]
             rfl
           refine pure_ (i := 8) (N := some 112) (v := ?_) (a' := ?_) #[true, true, true, true, true, true, true, true, true, false, false, false] rfl rfl (any_of HT_.out (by kernel_rfl)) (fun _ _ _ h => h) (Or.inl ⟨by rfl, ?_⟩) ?_ ?_
           rotate_left
           · intro w'
             go_simp
             with_reducible rfl
           rotate_left
           · simp only [Act.put, zA, zZ, zS, i64_w, i32_w]
             rfl
           refine pure_ (i := 9) (N := some 113) (v := ?_) (a' := ?_) #[true, true, true, true, true, true, true, true, true, true, false, false] rfl rfl (any_of HT_.out (by kernel_rfl)) (fun _ _ _ h => h) (Or.inl ⟨by rfl, ?_⟩) ?_ ?_
           rotate_left
           · intro w'
             go_simp
             with_reducible rfl
           rotate_left
           · simp only [Act.put, zA, zZ, zS, i64_w, i32_w]
             rfl
           refine pure_ (i := 10) (N := some 12) (v := ?_) (a' := ?_) #[true, true, true, true, true, true, true, true, true, true, true, false] rfl rfl (any_of HT_.out (by kernel_rfl)) (fun _ _ _ h => h) (Or.inl ⟨by rfl, ?_⟩) ?_ ?_
           rotate_left
           · intro w'
             go_simp
             with_reducible rfl
           rotate_left
           · simp only [Act.put, zA, zZ, zS, i64_w, i32_w]
             rfl
           refine pure_ (i := 11) (N := some 13) (v := ?_) (a' := ?_) #[true, true, true, true, true, true, true, true, true, true, true, true] rfl rfl (any_of HT_.out (by kernel_rfl)) (fun _ _ _ h => h) (Or.inl ⟨by rfl, ?_⟩) ?_ ?_
           rotate_left
           · intro w'
             go_simp
             with_reducible rfl
           rotate_left
           · simp only [Act.put, zA, zZ, zS, i64_w, i32_w]
             rfl
           refine done_ (done_of HT_.out (by kernel_rfl)) ?_
           have p367 : 0 ≤ (x11_3 : Int) := of_decide_eq_true (by first | (with_reducible assumption) | assumption)
           have q367 : x11_3 < (t354.length : Int) := of_decide_eq_true (by first | (with_reducible assumption) | assumption)
           obtain ⟨ad367, e367, hx367_0, hx367_1, hx367_2⟩ := at_T81 (Kd.R_reads' HO_5.out).2.2 x11_3 p367 q367
           (try rw [← Nbq65.out] at hx367_2)
           obtain rfl : ad364 = ad367 := (by injection e367)
           replace p367 := eq_true p367
           replace q367 := eq_true q367
           try go_wp2
           go_ret
           exact ⟨by first | rfl | (simp [errW_none, errW_some] <;> rfl) | (simp [*, errW_none, errW_some] <;> rfl), by repeat (first | (with_reducible first | exact HB.out | apply bA | apply bN | apply bD | refine bS ?_ GE348.out) | exact HB.out)⟩
         subst c67
         have H1 : (majordomoref06_Check.l2 k3 t354 (wrap64 (x11_3 + 1)) a0_0 a0_1 l0_2) = some r := by rw [if_pos rfl] at H; exact H
         clear H
         have H := H1
         clear H1
         have H' := As.mk H
         clear H
         obtain ⟨Ao68, co68, eo68⟩ := Kd.R_slice HO_5.out
         subst eo68
         try go_wp2
         have n0_ := As.mk (Kd.R_drew HO_5.out)
         have n1_ := As.mk (kD BK348.out)
         have n2_ := As.mk (bD HB.out)
         clear HO_5
         clear BK348
         clear HB
         have HO_5 := n0_
         have BK348 := n1_
         have HB := n2_
         clear n0_ n1_ n2_
         have p364 : 0 ≤ (x11_3 : Int) := of_decide_eq_true (by first | (with_reducible assumption) | assumption)
         have q364 : x11_3 < (t354.length : Int) := of_decide_eq_true (by first | (with_reducible assumption) | assumption)
         obtain ⟨ad364, e364, hx364_0, hx364_1, hx364_2⟩ := at_T81 (Kd.R_reads' HO_5.out).2.2 x11_3 p364 q364
         (try rw [← Nbq65.out] at hx364_2)
         cases e364
         replace p364 := eq_true p364
         replace q364 := eq_true q364
         refine start_ (n := 12) (S := fun w' => w'.cell? ⟨gb348, 0, none⟩ = some (.string a0_0) ∧ w'.cell? ⟨gb348, 1, none⟩ = some (.string a0_1) ∧ w'.cell? ⟨gb348, 2, none⟩ = some (.slice A0_2 l0_2.length c0_2) ∧ w'.cell? (ad364.add ((x11_3).toNat * 3)) = some (.string ((rd_T81 t354 x11_3).f0)) ∧ w'.cell? ⟨(ad364.add ((x11_3).toNat * 3)).block, (ad364.add ((x11_3).toNat * 3)).off + 1, none⟩ = some (.string ((rd_T81 t354 x11_3).f1)) ∧ w'.cell? ⟨(ad364.add ((x11_3).toNat * 3)).block, (ad364.add ((x11_3).toNat * 3)).off + 2, none⟩ = some (.bool true)) (ds := []) #[false, false, false, false, false, false, false, false, false, false, false, false] (by kernel_rfl) rfl rfl ⟨(kC BK348.out 0).trans rfl, (kC BK348.out 1).trans rfl, (kC BK348.out 2).trans rfl, hx364_0, hx364_1, hx364_2⟩ (fun hHeld => ?_); refine with_tabW majordomoref06_Check.tab25 majordomoref06_Check.bits25 (fun HT_ HW_ => ?_)
         generalize wr.drew = w69 at HO_5 BK348 HB hx364_0 hx364_1 hx364_2 hHeld ⊢
         refine pure_ (i := 1) (N := some 106) (v := ?_) (a' := ?_) #[false, true, false, false, false, false, false, false, false, false, false, false] rfl rfl (any_of HT_.out (by kernel_rfl)) (fun _ _ _ h => h) (Or.inl ⟨by rfl, ?_⟩) ?_ ?_
         rotate_left
         · intro w'
           go_simp
           with_reducible rfl
         rotate_left
         · simp only [Act.put, zA, zZ, zS, i64_w, i32_w]
           rfl
         refine pure_ (i := 2) (N := some 107) (v := ?_) (a' := ?_) #[false, true, true, false, false, false, false, false, false, false, false, false] rfl rfl (any_of HT_.out (by kernel_rfl)) (fun _ _ _ h => h) (Or.inl ⟨by rfl, ?_⟩) ?_ ?_
         rotate_left
         · intro w'
           go_simp
           with_reducible rfl
         rotate_left
         · simp only [Act.put, zA, zZ, zS, i64_w, i32_w]
           rfl
         refine pure_ (i := 3) (N := some 108) (v := ?_) (a' := ?_) #[false, true, true, true, false, false, false, false, false, false, false, false] rfl rfl (any_of HT_.out (by kernel_rfl)) (fun _ _ _ h => h) (Or.inl ⟨by rfl, ?_⟩) ?_ ?_
         rotate_left
         · intro w'
           go_simp
           with_reducible rfl
         rotate_left
         · simp only [Act.put, zA, zZ, zS, i64_w, i32_w]
           rfl
         refine pure_ (i := 4) (N := some 109) (v := ?_) (a' := ?_) #[false, true, true, true, true, false, false, false, false, false, false, false] rfl rfl (any_of HT_.out (by kernel_rfl)) (fun _ _ _ h => h) (Or.inl ⟨by rfl, ?_⟩) ?_ ?_
         rotate_left
         · intro w'
           go_simp
           with_reducible rfl
         rotate_left
         · simp only [Act.put, zA, zZ, zS, i64_w, i32_w]
           rfl
         refine take_ (i := 0) (N := some 105) (v := ?_) (a' := ?_) #[true, true, true, true, true, false, false, false, false, false, false, false] rfl rfl (take_ofW HT_.out HW_.out (by kernel_rfl)) (fun _ _ _ h => h) (Or.inl ⟨by rfl, ?_⟩) hHeld ?_ ?_
         rotate_left
         · rintro w' ⟨s0, s1, s2, s3, s4, s5⟩
           go_simp
           with_reducible rfl
         rotate_left
         · simp only [Act.put, zA, zZ, zS, i64_w, i32_w]
           rfl
         refine take_ (i := 5) (N := some 110) (v := ?_) (a' := ?_) #[true, true, true, true, true, true, false, false, false, false, false, false] rfl rfl (take_ofW HT_.out HW_.out (by kernel_rfl)) (fun _ _ _ h => h) (Or.inl ⟨by rfl, ?_⟩) hHeld ?_ ?_
         rotate_left
         · rintro w' ⟨s0, s1, s2, s3, s4, s5⟩
           go_simp
           with_reducible rfl
         rotate_left
         · simp only [Act.put, zA, zZ, zS, i64_w, i32_w]
           rfl
         refine one_ (i := 6) (N := some 111) #[true, true, true, true, true, true, true, false, false, false, false, false] rfl rfl (one_of HT_.out (by kernel_rfl)) (by decide) (fun K hK => ?_)
         refine goes_ Tryz.func32 (by kernel_rfl) rfl #[.agg #[.string a0_0, .string a0_1, .slice A0_2 l0_2.length c0_2], .string ((rd_T81 t354 x11_3).f0)] (by rfl) rfl rfl (by (try simp only [List.map_toArray, List.map_cons, List.map_nil]); first | done | rfl | (simp only [List.length_drop, List.length_take]; rfl)) ?_
         with_reducible refine (majordomoref06_Get.calls k3 a0_0 a0_1 _ _ l0_2 ((rd_T81 t354 x11_3).f0) t365 true _ ?side1 ?side2 A64.out).mono ?_
         (case side1 => repeat (first | exact (Kd.C_below HR0_2.out HB.out) | (with_reducible refine Kd.C_alloc ?_ _) | (with_reducible refine Kd.C_drewN ?_ _) | (with_reducible refine Kd.C_drew ?_)))
         (case side2 => exact HC0_2.out)
         rintro e w70 ⟨rfl, hb⟩
         have HS3_ := (hb.cell (World.block_lt_of_cell? _ _ (hHeld.2.2.2.1))).trans (hHeld.2.2.2.1)
         have HS4_ := (hb.cell (World.block_lt_of_cell? _ _ (hHeld.2.2.2.2.1))).trans (hHeld.2.2.2.2.1)
         have HS5_ := (hb.cell (World.block_lt_of_cell? _ _ (hHeld.2.2.2.2.2))).trans (hHeld.2.2.2.2.2)
         refine ⟨_, rfl, ?_⟩
         have n0_ := As.mk (Kd.R_below (by (with_reducible repeat (first | apply Kd.R_alloc | apply Kd.R_drewN | apply Kd.R_drew)); exact HO_5.out) hb)
         have n1_ := As.mk (kB (g := gb348) (o := .cells #[.string a0_0, .string a0_1, .slice A0_2 l0_2.length c0_2] 24 (0, 0)) (by (with_reducible repeat (first | refine kN ?_ _ | refine kD ?_ | refine kA ?_ _)); exact BK348.out) hb)
         have n2_ := As.mk (bT (by repeat (first | (with_reducible first | exact HB.out | apply bA | apply bN | apply bD | refine bS ?_ GE348.out) | exact HB.out)) hb)
         clear HO_5
         clear BK348
         clear HB
         have HO_5 := n0_
         have BK348 := n1_
         have HB := n2_
         clear n0_ n1_ n2_
         (try clear hb)
         (try clear hb2)
         (try clear hk)
         (try clear hi)
         refine hK.out _ _ ⟨(kC BK348.out 0).trans rfl, (kC BK348.out 1).trans rfl, (kC BK348.out 2).trans rfl, HS3_, HS4_, HS5_⟩ (fun hHeld => ?_)
         clear hK K
         refine norm_ (a' := ?_) ?_ ?_
         rotate_left
         · show Act.put _ (some 111) _ = _
           simp only [Act.put, zA, zZ, zS, i64_w, i32_w]
           rfl
         refine pure_ (i := 7) (N := some 104) (v := ?_) (a' := ?_) #[true, true, true, true, true, true, true, true, false, false, false, false] rfl rfl (any_of HT_.out (by kernel_rfl)) (fun _ _ _ h => h) (Or.inl ⟨by rfl, ?_⟩) ?_ ?_
         rotate_left
         · intro w'
           go_simp
           with_reducible rfl
         rotate_left
         · simp only [Act.put, zA, zZ, zS, i64_w, i32_w]
           rfl
         refine pure_ (i := 8) (N := some 112) (v := ?_) (a' := ?_) #[true, true, true, true, true, true, true, true, true, false, false, false] rfl rfl (any_of HT_.out (by kernel_rfl)) (fun _ _ _ h => h) (Or.inl ⟨by rfl, ?_⟩) ?_ ?_
         rotate_left
         · intro w'
           go_simp
           with_reducible rfl
         rotate_left
         · simp only [Act.put, zA, zZ, zS, i64_w, i32_w]
           rfl
         refine pure_ (i := 9) (N := some 113) (v := ?_) (a' := ?_) #[true, true, true, true, true, true, true, true, true, true, false, false] rfl rfl (any_of HT_.out (by kernel_rfl)) (fun _ _ _ h => h) (Or.inl ⟨by rfl, ?_⟩) ?_ ?_
         rotate_left
         · intro w'
           go_simp
           with_reducible rfl
         rotate_left
         · simp only [Act.put, zA, zZ, zS, i64_w, i32_w]
           rfl
         refine pure_ (i := 10) (N := some 12) (v := ?_) (a' := ?_) #[true, true, true, true, true, true, true, true, true, true, true, false] rfl rfl (any_of HT_.out (by kernel_rfl)) (fun _ _ _ h => h) (Or.inl ⟨by rfl, ?_⟩) ?_ ?_
         rotate_left
         · intro w'
           go_simp
           with_reducible rfl
         rotate_left
         · simp only [Act.put, zA, zZ, zS, i64_w, i32_w]
           rfl
         refine pure_ (i := 11) (N := some 13) (v := ?_) (a' := ?_) #[true, true, true, true, true, true, true, true, true, true, true, true] rfl rfl (any_of HT_.out (by kernel_rfl)) (fun _ _ _ h => h) (Or.inl ⟨by rfl, ?_⟩) ?_ ?_
         rotate_left
         · intro w'
           go_simp
           with_reducible rfl
         rotate_left
         · simp only [Act.put, zA, zZ, zS, i64_w, i32_w]
           rfl
         refine done_ (done_of HT_.out (by kernel_rfl)) ?_
         have p367 : 0 ≤ (x11_3 : Int) := of_decide_eq_true (by first | (with_reducible assumption) | assumption)
         have q367 : x11_3 < (t354.length : Int) := of_decide_eq_true (by first | (with_reducible assumption) | assumption)
         obtain ⟨ad367, e367, hx367_0, hx367_1, hx367_2⟩ := at_T81 (Kd.R_reads' HO_5.out).2.2 x11_3 p367 q367
         (try rw [← Nbq65.out] at hx367_2)
         obtain rfl : ad364 = ad367 := (by injection e367)
         replace p367 := eq_true p367
         replace q367 := eq_true q367
         try go_wp2
         go_roundg k3
         case measure => have := HJ8.out; have := HK2.out; have := HK3.out; omega
         case rel => exact ⟨(wrap64 (x11_3 + 1)), (by first | rfl | (simp; done) | (simp [*]; done)), H', ⟨by have := HJ8.out; have := HK2.out; have := HK3.out; omega⟩, ⟨by (with_reducible repeat (first | apply Kd.R_alloc | apply Kd.R_drewN | apply Kd.R_drew)); exact HO_5.out⟩, ⟨by (with_reducible repeat (first | refine kN ?_ _ | refine kD ?_ | refine kA ?_ _)); exact BK348.out⟩, ⟨by repeat (first | (with_reducible first | exact HB.out | apply bA | apply bN | apply bD | refine bS ?_ GE348.out) | exact HB.out)⟩⟩
     rw [if_pos c22] at H
     have c22b0 : decide (x7_2 < (l0_2.length : Int)) = true := decide_eq_true c22
     clear c22
     by_cases c23 : 0 ≤ x7_2
     rotate_left
     · rw [if_neg c23] at H
       exact absurd H (by simp)
     rw [if_pos c23] at H
     have c23b0 : decide (0 ≤ x7_2) = true := decide_eq_true c23
     clear c23
     have H' := As.mk H
     clear H
     have hcz24_0 : wr.cell? ⟨gb348, 0, none⟩ = some (.string a0_0) := (kC BK348.out 0).trans rfl
     have hcz24_1 : wr.cell? ⟨gb348, 1, none⟩ = some (.string a0_1) := (kC BK348.out 1).trans rfl
     have hcz24_2 : wr.cell? ⟨gb348, 2, none⟩ = some (.slice A0_2 l0_2.length c0_2) := (kC BK348.out 2).trans rfl
     have hfz24_0 := kF BK348.out 0
     have hfz24_1 := kF BK348.out 1
     have hfz24_2 := kF BK348.out 2
     have p358 : 0 ≤ (x7_2 : Int) := of_decide_eq_true (by first | (with_reducible assumption) | assumption)
     have q358 : x7_2 < (l0_2.length : Int) := of_decide_eq_true (by first | (with_reducible assumption) | assumption)
     obtain ⟨ad358, e358, hx358_0, hx358_1⟩ := at_T31 HR0_2.out x7_2 p358 q358
     cases e358
     replace hx358_0 := (HB.out.cell (World.block_lt_of_cell? w _ hx358_0)).trans hx358_0
     replace hx358_1 := (HB.out.cell (World.block_lt_of_cell? w _ hx358_1)).trans hx358_1
     replace p358 := eq_true p358
     replace q358 := eq_true q358
     go_wp2_with (first | ((with_reducible refine gate_dst (N := 8) rfl ?_); refine box_event ?hg (N := 8) ?hd (cs := #[.string (⟨#[]⟩ : ByteArray), .string (⟨#[]⟩ : ByteArray)]) (t := 31) ?hr ?_; (case hd => rfl); (case hg => rfl); (case hr => first | (go_simp; done) | (go_simp; rfl)); intro gb359 hg w25 hbox hb; have n0_ := As.mk (Kd.R_below (by (with_reducible repeat (first | apply Kd.R_alloc | apply Kd.R_drewN | apply Kd.R_drew)); exact HO_5.out) hb); have n1_ := As.mk (kB (g := gb348) (o := .cells #[.string a0_0, .string a0_1, .slice (some ad358) l0_2.length c0_2] 24 (0, 0)) (by (with_reducible repeat (first | refine kN ?_ _ | refine kD ?_ | refine kA ?_ _)); exact BK348.out) hb); have n2_ := As.mk (bT (by repeat (first | (with_reducible first | exact HB.out | apply bA | apply bN | apply bD | refine bS ?_ GE348.out) | exact HB.out)) hb); have n3_ := As.mk (hbox); have n4_ := As.mk ((by rw [hg]; exact (bZ (by repeat (first | (with_reducible first | exact HB.out | apply bA | apply bN | apply bD | refine bS ?_ GE348.out) | exact HB.out))) : w.heap.size ≤ gb359)); have n5_ := As.mk ((by rw [hg]; exact (bZ (by repeat (first | (with_reducible first | exact HB.out | apply bA | apply bN | apply bD | refine bS ?_ GE348.out) | exact HB.out))) : w.heap.size ≤ gb359)); have n6_ := As.mk ((by rw [hg]; exact Nat.ne_of_lt (blk_lt (g := gb348) (o := .cells #[.string a0_0, .string a0_1, .slice (some ad358) l0_2.length c0_2] 24 (0, 0)) (by (with_reducible repeat (first | refine kN ?_ _ | refine kD ?_ | refine kA ?_ _)); exact BK348.out)) : gb348 ≠ gb359)); have n7_ := As.mk ((by rw [hg]; exact Nat.ne_of_gt (blk_lt (g := gb348) (o := .cells #[.string a0_0, .string a0_1, .slice (some ad358) l0_2.length c0_2] 24 (0, 0)) (by (with_reducible repeat (first | refine kN ?_ _ | refine kD ?_ | refine kA ?_ _)); exact BK348.out)) : gb359 ≠ gb348)); clear HO_5; clear BK348; clear HB; have HO_5 := n0_; have BK348 := n1_; have HB := n2_; have BK359 := n3_; have GW359 := n4_; have GE359 := n5_; have NB348_359 := n6_; have NB359_348 := n7_; clear n0_ n1_ n2_ n3_ n4_ n5_ n6_ n7_; clear hb hbox hg; have hnb26 := NB359_348.out; have hnc26 := NB348_359.out; have hcz27_0 : w25.cell? ⟨gb359, 0, none⟩ = some (.string (⟨#[]⟩ : ByteArray)) := (kC BK359.out 0).trans rfl; have hcz27_1 : w25.cell? ⟨gb359, 1, none⟩ = some (.string (⟨#[]⟩ : ByteArray)) := (kC BK359.out 1).trans rfl; have hfz27_0 := kF BK359.out 0; have hfz27_1 := kF BK359.out 1))
     go_loopg [9, 10] k2 (fun kq v9 v10 w' => ∃ (x9_3 : Bool) (x10_3 : Int), v9 = .bool x9_3 ∧ v10 = .int .i64 x10_3 ∧ As (majordomoref06_Check.l1 kq t354 x7_2 x9_3 x10_3 a0_0 a0_1 l0_2 ((rd_T31 l0_2 x7_2).f0) ((rd_T31 l0_2 x7_2).f1) = some r) ∧ As (kq ≤ k2) ∧ As (Kd.R k81 81 w' w.heap.size (fun _ => True) v356 t354) ∧ As (w'.heap[gb348]? = some (.cells #[.string a0_0, .string a0_1, (.slice (some ad358) l0_2.length c0_2)] 24 (0, 0))) ∧ As (w'.heap[gb359]? = some (.cells #[.string ((rd_T31 l0_2 x7_2).f0), .string ((rd_T31 l0_2 x7_2).f1)] 31 (0, 0))) ∧ As (Below w.heap.size w w'))
     case atStart => exact ⟨(false), (0), (by first | rfl | (simp; done) | (simp [*]; done)), (by first | rfl | (simp; done) | (simp [*]; done)), H', ⟨Nat.le_refl _⟩, ⟨by (with_reducible repeat (first | apply Kd.R_alloc | apply Kd.R_drewN | apply Kd.R_drew)); exact Kd.R_mono (Kd.R_far (p := ⟨gb359, 1, none⟩) (Kd.R_far (p := ⟨gb359, 0, none⟩) (Kd.R_types HO_5.out BK359.out (by decide)) (fun _ hk => hk.2) (.string ((rd_T31 l0_2 x7_2).f0))) (fun _ hk => hk.2) (.string ((rd_T31 l0_2 x7_2).f1))) (fun _ hk => trivial)⟩, ⟨by (with_reducible repeat (first | refine kN ?_ _ | refine kD ?_ | refine kA ?_ _)); refine kR ?_ NB348_359.out _; (with_reducible repeat (first | refine kN ?_ _ | refine kD ?_ | refine kA ?_ _)); refine kR ?_ NB348_359.out _; (with_reducible repeat (first | refine kN ?_ _ | refine kD ?_ | refine kA ?_ _)); exact BK348.out⟩, ⟨by (with_reducible repeat (first | refine kN ?_ _ | refine kD ?_ | refine kA ?_ _)); refine kP (cs := #[.string ((rd_T31 l0_2 x7_2).f0), .string (⟨#[]⟩ : ByteArray)]) ?_ 1 _ rfl; (with_reducible repeat (first | refine kN ?_ _ | refine kD ?_ | refine kA ?_ _)); refine kP (cs := #[.string (⟨#[]⟩ : ByteArray), .string (⟨#[]⟩ : ByteArray)]) ?_ 0 _ rfl; (with_reducible repeat (first | refine kN ?_ _ | refine kD ?_ | refine kA ?_ _)); exact BK359.out⟩, ⟨by repeat (first | (with_reducible first | exact HB.out | apply bA | apply bN | apply bD | refine bS ?_ GE348.out | refine bS ?_ GE359.out) | exact HB.out)⟩⟩
     case round =>
      clear H'
      try clear c1
      try clear c2
      try clear p2
      try clear c3
      try clear c3b0
      try clear c3b1
      try clear p3
      try clear q3
      try clear hx3
      try clear c7
      try clear c15
      try clear c19
      try clear c22
      try clear c22b0
      try clear c23
      try clear c23b0
      try clear c26
      try clear hcz11_0
      try clear hcz11_1
      try clear hcz11_2
      try clear hcz13_0
      try clear hcz13_1
      try clear hcz13_2
      try clear hcz17_0
      try clear hcz17_1
      try clear hcz17_2
      try clear hcz20_0
      try clear hcz20_1
      try clear hcz20_2
      try clear hcz24_0
      try clear hcz24_1
      try clear hcz24_2
      try clear hcz27_0
      try clear hcz27_1
      try clear hcz5_0
      try clear hcz5_1
      try clear hcz5_2
      try clear hfz11_0
      try clear hfz11_1
      try clear hfz11_2
      try clear hfz13_0
      try clear hfz13_1
      try clear hfz13_2
      try clear hfz17_0
      try clear hfz17_1
      try clear hfz17_2
      try clear hfz20_0
      try clear hfz20_1
      try clear hfz20_2
      try clear hfz24_0
      try clear hfz24_1
      try clear hfz24_2
      try clear hfz27_0
      try clear hfz27_1
      try clear hfz5_0
      try clear hfz5_1
      try clear hfz5_2
      try clear hx358_0
      try clear hx358_1
      try clear p2
      try clear p358
      try clear q358
      obtain ⟨x9_3, x10_3, rfl, rfl, HA, HK3, HO_5, BK348, BK359, HB⟩ := hrel
      cases gk with
      | zero => exact absurd HA.out (by simp [majordomoref06_Check.l1])
      | succ k3 =>
       have H := HA.out
       clear HA
       simp only [majordomoref06_Check.l1] at H
       by_cases c28 : x10_3 < (t354.length : Int)
       · rw [if_pos c28] at H
         have c28b0 : decide (x10_3 < (t354.length : Int)) = true := decide_eq_true c28
         clear c28
         by_cases c29 : x9_3 = true
         · subst c29
           have H1 : (majordomoref06_Check.l1 k3 t354 x7_2 true (wrap64 (x10_3 + 1)) a0_0 a0_1 l0_2 ((rd_T31 l0_2 x7_2).f0) ((rd_T31 l0_2 x7_2).f1)) = some r := by rw [if_pos rfl] at H; exact H
           clear H
           have H := H1
           clear H1
           have H' := As.mk H
           clear H
           obtain ⟨Ao30, co30, eo30⟩ := Kd.R_slice HO_5.out
           subst eo30
           try go_wp2
           have n0_ := As.mk (Kd.R_drew HO_5.out)
           have n1_ := As.mk (kD BK348.out)
           have n2_ := As.mk (kD BK359.out)
           have n3_ := As.mk (bD HB.out)
           clear HO_5
           clear BK348
           clear BK359
           clear HB
           have HO_5 := n0_
           have BK348 := n1_
           have BK359 := n2_
           have HB := n3_
           clear n0_ n1_ n2_ n3_
           refine start_ (n := 12) (S := fun w' => True) (ds := []) #[false, false, false, false, false, false, false, false, false, false, false, false] (by kernel_rfl) rfl rfl trivial (fun hHeld => ?_); refine with_tabW majordomoref06_Check.tab19 majordomoref06_Check.bits19 (fun HT_ HW_ => ?_)
           generalize wr.drew = w31 at HO_5 BK348 BK359 HB hHeld ⊢
           refine pure_ (i := 0) (N := some 61) (v := ?_) (a' := ?_) #[true, false, false, false, false, false, false, false, false, false, false, false] rfl rfl (any_of HT_.out (by kernel_rfl)) (fun _ _ _ h => h) (Or.inl ⟨by rfl, ?_⟩) ?_ ?_
           rotate_left
           · intro w'
             go_simp
             with_reducible rfl
           rotate_left
           · simp only [Act.put, zA, zZ, zS, i64_w, i32_w]
             rfl
           refine pure_ (i := 1) (N := some 62) (v := ?_) (a' := ?_) #[true, true, false, false, false, false, false, false, false, false, false, false] rfl rfl (any_of HT_.out (by kernel_rfl)) (fun _ _ _ h => h) (Or.inl ⟨by rfl, ?_⟩) ?_ ?_
           rotate_left
           · intro w'
             go_simp
             with_reducible rfl
           rotate_left
           · simp only [Act.put, zA, zZ, zS, i64_w, i32_w]
             rfl
           refine pure_ (i := 2) (N := some 63) (v := undef) (a' := ?_) #[true, true, true, false, false, false, false, false, false, false, false, false] rfl rfl (any_of HT_.out (by kernel_rfl)) (fun _ _ _ h => h) (Or.inr ⟨by rfl, rfl⟩) ?_ ?_
           rotate_left
           · simp only [Act.put, zA, zZ, zS, i64_w, i32_w]
             rfl
           refine pure_ (i := 3) (N := some 64) (v := undef) (a' := ?_) #[true, true, true, true, false, false, false, false, false, false, false, false] rfl rfl (any_of HT_.out (by kernel_rfl)) (fun _ _ _ h => h) (Or.inr ⟨by rfl, rfl⟩) ?_ ?_
           rotate_left
           · simp only [Act.put, zA, zZ, zS, i64_w, i32_w]
             rfl
           refine pure_ (i := 4) (N := some 65) (v := undef) (a' := ?_) #[true, true, true, true, true, false, false, false, false, false, false, false] rfl rfl (any_of HT_.out (by kernel_rfl)) (fun _ _ _ h => h) (Or.inr ⟨by rfl, rfl⟩) ?_ ?_
           rotate_left
           · simp only [Act.put, zA, zZ, zS, i64_w, i32_w]
             rfl
           refine pure_ (i := 5) (N := some 66) (v := undef) (a' := ?_) #[true, true, true, true, true, true, false, false, false, false, false, false] rfl rfl (any_of HT_.out (by kernel_rfl)) (fun _ _ _ h => h) (Or.inr ⟨by rfl, rfl⟩) ?_ ?_
           rotate_left
           · simp only [Act.put, zA, zZ, zS, i64_w, i32_w]
             rfl
           refine pure_ (i := 6) (N := some 67) (v := undef) (a' := ?_) #[true, true, true, true, true, true, true, false, false, false, false, false] rfl rfl (any_of HT_.out (by kernel_rfl)) (fun _ _ _ h => h) (Or.inr ⟨by rfl, rfl⟩) ?_ ?_
           rotate_left
           · simp only [Act.put, zA, zZ, zS, i64_w, i32_w]
             rfl
           refine pure_ (i := 7) (N := some 68) (v := undef) (a' := ?_) #[true, true, true, true, true, true, true, true, false, false, false, false] rfl rfl (any_of HT_.out (by kernel_rfl)) (fun _ _ _ h => h) (Or.inr ⟨by rfl, rfl⟩) ?_ ?_
           rotate_left
           · simp only [Act.put, zA, zZ, zS, i64_w, i32_w]
             rfl
           refine pure_ (i := 8) (N := some 69) (v := undef) (a' := ?_) #[true, true, true, true, true, true, true, true, true, false, false, false] rfl rfl (any_of HT_.out (by kernel_rfl)) (fun _ _ _ h => h) (Or.inr ⟨by rfl, rfl⟩) ?_ ?_
           rotate_left
           · simp only [Act.put, zA, zZ, zS, i64_w, i32_w]
             rfl
           refine pure_ (i := 9) (N := some 70) (v := undef) (a' := ?_) #[true, true, true, true, true, true, true, true, true, true, false, false] rfl rfl (any_of HT_.out (by kernel_rfl)) (fun _ _ _ h => h) (Or.inr ⟨by rfl, rfl⟩) ?_ ?_
           rotate_left
           · simp only [Act.put, zA, zZ, zS, i64_w, i32_w]
             rfl
           refine pure_ (i := 10) (N := some 71) (v := ?_) (a' := ?_) #[true, true, true, true, true, true, true, true, true, true, true, false] rfl rfl (any_of HT_.out (by kernel_rfl)) (fun _ _ _ h => h) (Or.inl ⟨by rfl, ?_⟩) ?_ ?_
           rotate_left
           · intro w'
             go_simp
             with_reducible rfl
           rotate_left
           · simp only [Act.put, zA, zZ, zS, i64_w, i32_w]
             rfl
           refine pure_ (i := 11) (N := some 9) (v := ?_) (a' := ?_) #[true, true, true, true, true, true, true, true, true, true, true, true] rfl rfl (any_of HT_.out (by kernel_rfl)) (fun _ _ _ h => h) (Or.inl ⟨by rfl, ?_⟩) ?_ ?_
           rotate_left
           · intro w'
             go_simp
             with_reducible rfl
           rotate_left
           · simp only [Act.put, zA, zZ, zS, i64_w, i32_w]
             rfl
           refine done_ (done_of HT_.out (by kernel_rfl)) ?_
           try go_wp2
           go_roundg k3
           case measure => have := HJ8.out; have := HK2.out; have := HK3.out; omega
           case rel => exact ⟨(true), (wrap64 (x10_3 + 1)), (by first | rfl | (simp; done) | (simp [*]; done)), (by first | rfl | (simp; done) | (simp [*]; done)), H', ⟨by have := HJ8.out; have := HK2.out; have := HK3.out; omega⟩, ⟨by (with_reducible repeat (first | apply Kd.R_alloc | apply Kd.R_drewN | apply Kd.R_drew)); exact HO_5.out⟩, ⟨by (with_reducible repeat (first | refine kN ?_ _ | refine kD ?_ | refine kA ?_ _)); exact BK348.out⟩, ⟨by (with_reducible repeat (first | refine kN ?_ _ | refine kD ?_ | refine kA ?_ _)); exact BK359.out⟩, ⟨by repeat (first | (with_reducible first | exact HB.out | apply bA | apply bN | apply bD | refine bS ?_ GE348.out | refine bS ?_ GE359.out) | exact HB.out)⟩⟩
         replace c29 := Bool.eq_false_iff.mpr c29
         subst c29
         have H1 : (if 0 ≤ x10_3 then (majordomoref06_Check.l1 k3 t354 x7_2 (((rd_T81 t354 x10_3).f0).toList == ((rd_T31 l0_2 x7_2).f0).toList) (wrap64 (x10_3 + 1)) a0_0 a0_1 l0_2 ((rd_T31 l0_2 x7_2).f0) ((rd_T31 l0_2 x7_2).f1)) else (none)) = some r := by rw [if_neg (show ¬ (false = true) by decide)] at H; exact H
         clear H
         have H := H1
         clear H1
         by_cases c32 : 0 ≤ x10_3
         rotate_left
         · rw [if_neg c32] at H
           exact absurd H (by simp)
         rw [if_pos c32] at H
         have c32b0 : decide (0 ≤ x10_3) = true := decide_eq_true c32
         clear c32
         have H' := As.mk H
         clear H
         obtain ⟨Ao33, co33, eo33⟩ := Kd.R_slice HO_5.out
         subst eo33
         try go_wp2
         have n0_ := As.mk (Kd.R_drew HO_5.out)
         have n1_ := As.mk (kD BK348.out)
         have n2_ := As.mk (kD BK359.out)
         have n3_ := As.mk (bD HB.out)
         clear HO_5
         clear BK348
         clear BK359
         clear HB
         have HO_5 := n0_
         have BK348 := n1_
         have BK359 := n2_
         have HB := n3_
         clear n0_ n1_ n2_ n3_
         have p360 : 0 ≤ (x10_3 : Int) := of_decide_eq_true (by first | (with_reducible assumption) | assumption)
         have q360 : x10_3 < (t354.length : Int) := of_decide_eq_true (by first | (with_reducible assumption) | assumption)
         obtain ⟨ad360, e360, hx360_0, hx360_1, hx360_2⟩ := at_T81 (Kd.R_reads' HO_5.out).2.2 x10_3 p360 q360
         cases e360
         replace p360 := eq_true p360
         replace q360 := eq_true q360
         refine start_ (n := 12) (S := fun w' => w'.cell? ⟨gb359, 0, none⟩ = some (.string ((rd_T31 l0_2 x7_2).f0)) ∧ w'.cell? ⟨gb359, 1, none⟩ = some (.string ((rd_T31 l0_2 x7_2).f1)) ∧ w'.cell? (ad360.add ((x10_3).toNat * 3)) = some (.string ((rd_T81 t354 x10_3).f0)) ∧ w'.cell? ⟨(ad360.add ((x10_3).toNat * 3)).block, (ad360.add ((x10_3).toNat * 3)).off + 1, none⟩ = some (.string ((rd_T81 t354 x10_3).f1)) ∧ w'.cell? ⟨(ad360.add ((x10_3).toNat * 3)).block, (ad360.add ((x10_3).toNat * 3)).off + 2, none⟩ = some (.bool ((rd_T81 t354 x10_3).f2))) (ds := []) #[false, false, false, false, false, false, false, false, false, false, false, false] (by kernel_rfl) rfl rfl ⟨(kC BK359.out 0).trans rfl, (kC BK359.out 1).trans rfl, hx360_0, hx360_1, hx360_2⟩ (fun hHeld => ?_); refine with_tabW majordomoref06_Check.tab19 majordomoref06_Check.bits19 (fun HT_ HW_ => ?_)
         generalize wr.drew = w34 at HO_5 BK348 BK359 HB hx360_0 hx360_1 hx360_2 hHeld ⊢
         refine pure_ (i := 0) (N := some 61) (v := ?_) (a' := ?_) #[true, false, false, false, false, false, false, false, false, false, false, false] rfl rfl (any_of HT_.out (by kernel_rfl)) (fun _ _ _ h => h) (Or.inl ⟨by rfl, ?_⟩) ?_ ?_
         rotate_left
         · intro w'
           go_simp
           with_reducible rfl
         rotate_left
         · simp only [Act.put, zA, zZ, zS, i64_w, i32_w]
           rfl
         refine pure_ (i := 1) (N := some 62) (v := ?_) (a' := ?_) #[true, true, false, false, false, false, false, false, false, false, false, false] rfl rfl (any_of HT_.out (by kernel_rfl)) (fun _ _ _ h => h) (Or.inl ⟨by rfl, ?_⟩) ?_ ?_
         rotate_left
         · intro w'
           go_simp
           with_reducible rfl
         rotate_left
         · simp only [Act.put, zA, zZ, zS, i64_w, i32_w]
           rfl
         refine pure_ (i := 2) (N := some 63) (v := ?_) (a' := ?_) #[true, true, true, false, false, false, false, false, false, false, false, false] rfl rfl (any_of HT_.out (by kernel_rfl)) (fun _ _ _ h => h) (Or.inl ⟨by rfl, ?_⟩) ?_ ?_
         rotate_left
         · intro w'
           go_simp
           with_reducible rfl
         rotate_left
         · simp only [Act.put, zA, zZ, zS, i64_w, i32_w]
           rfl
         refine pure_ (i := 3) (N := some 64) (v := ?_) (a' := ?_) #[true, true, true, true, false, false, false, false, false, false, false, false] rfl rfl (any_of HT_.out (by kernel_rfl)) (fun _ _ _ h => h) (Or.inl ⟨by rfl, ?_⟩) ?_ ?_
         rotate_left
         · intro w'
           go_simp
           with_reducible rfl
         rotate_left
         · simp only [Act.put, zA, zZ, zS, i64_w, i32_w]
           rfl
         refine pure_ (i := 4) (N := some 65) (v := ?_) (a' := ?_) #[true, true, true, true, true, false, false, false, false, false, false, false] rfl rfl (any_of HT_.out (by kernel_rfl)) (fun _ _ _ h => h) (Or.inl ⟨by rfl, ?_⟩) ?_ ?_
         rotate_left
         · intro w'
           go_simp
           with_reducible rfl
         rotate_left
         · simp only [Act.put, zA, zZ, zS, i64_w, i32_w]
           rfl
         refine pure_ (i := 5) (N := some 66) (v := ?_) (a' := ?_) #[true, true, true, true, true, true, false, false, false, false, false, false] rfl rfl (any_of HT_.out (by kernel_rfl)) (fun _ _ _ h => h) (Or.inl ⟨by rfl, ?_⟩) ?_ ?_
         rotate_left
         · intro w'
           go_simp
           with_reducible rfl
         rotate_left
         · simp only [Act.put, zA, zZ, zS, i64_w, i32_w]
           rfl
         refine pure_ (i := 7) (N := some 68) (v := ?_) (a' := ?_) #[true, true, true, true, true, true, false, true, false, false, false, false] rfl rfl (any_of HT_.out (by kernel_rfl)) (fun _ _ _ h => h) (Or.inl ⟨by rfl, ?_⟩) ?_ ?_
         rotate_left
         · intro w'
           go_simp
           with_reducible rfl
         rotate_left
         · simp only [Act.put, zA, zZ, zS, i64_w, i32_w]
           rfl
         refine take_ (i := 6) (N := some 67) (v := ?_) (a' := ?_) #[true, true, true, true, true, true, true, true, false, false, false, false] rfl rfl (take_ofW HT_.out HW_.out (by kernel_rfl)) (fun _ _ _ h => h) (Or.inl ⟨by rfl, ?_⟩) hHeld ?_ ?_
         rotate_left
         · rintro w' ⟨s0, s1, s2, s3, s4⟩
           go_simp
           with_reducible rfl
         rotate_left
         · simp only [Act.put, zA, zZ, zS, i64_w, i32_w]
           rfl
         refine take_ (i := 8) (N := some 69) (v := ?_) (a' := ?_) #[true, true, true, true, true, true, true, true, true, false, false, false] rfl rfl (take_ofW HT_.out HW_.out (by kernel_rfl)) (fun _ _ _ h => h) (Or.inl ⟨by rfl, ?_⟩) hHeld ?_ ?_
         rotate_left
         · rintro w' ⟨s0, s1, s2, s3, s4⟩
           go_simp
           with_reducible rfl
         rotate_left
         · simp only [Act.put, zA, zZ, zS, i64_w, i32_w]
           rfl
         refine pure_ (i := 9) (N := some 70) (v := ?_) (a' := ?_) #[true, true, true, true, true, true, true, true, true, true, false, false] rfl rfl (any_of HT_.out (by kernel_rfl)) (fun _ _ _ h => h) (Or.inl ⟨by rfl, ?_⟩) ?_ ?_
         rotate_left
         · intro w'
           go_simp
           with_reducible rfl
         rotate_left
         · simp only [Act.put, zA, zZ, zS, i64_w, i32_w]
           rfl
         refine pure_ (i := 10) (N := some 71) (v := ?_) (a' := ?_) #[true, true, true, true, true, true, true, true, true, true, true, false] rfl rfl (any_of HT_.out (by kernel_rfl)) (fun _ _ _ h => h) (Or.inl ⟨by rfl, ?_⟩) ?_ ?_
         rotate_left
         · intro w'
           go_simp
           with_reducible rfl
         rotate_left
         · simp only [Act.put, zA, zZ, zS, i64_w, i32_w]
           rfl
         refine pure_ (i := 11) (N := some 9) (v := ?_) (a' := ?_) #[true, true, true, true, true, true, true, true, true, true, true, true] rfl rfl (any_of HT_.out (by kernel_rfl)) (fun _ _ _ h => h) (Or.inl ⟨by rfl, ?_⟩) ?_ ?_
         rotate_left
         · intro w'
           go_simp
           with_reducible rfl
         rotate_left
         · simp only [Act.put, zA, zZ, zS, i64_w, i32_w]
           rfl
         refine done_ (done_of HT_.out (by kernel_rfl)) ?_
         try go_wp2
         go_roundg k3
         case measure => have := HJ8.out; have := HK2.out; have := HK3.out; omega
         case rel => exact ⟨((((rd_T81 t354 x10_3).f0).toList == ((rd_T31 l0_2 x7_2).f0).toList)), (wrap64 (x10_3 + 1)), (by first | rfl | (simp; done) | (simp [*]; done)), (by first | rfl | (simp; done) | (simp [*]; done)), H', ⟨by have := HJ8.out; have := HK2.out; have := HK3.out; omega⟩, ⟨by (with_reducible repeat (first | apply Kd.R_alloc | apply Kd.R_drewN | apply Kd.R_drew)); exact HO_5.out⟩, ⟨by (with_reducible repeat (first | refine kN ?_ _ | refine kD ?_ | refine kA ?_ _)); exact BK348.out⟩, ⟨by (with_reducible repeat (first | refine kN ?_ _ | refine kD ?_ | refine kA ?_ _)); exact BK359.out⟩, ⟨by repeat (first | (with_reducible first | exact HB.out | apply bA | apply bN | apply bD | refine bS ?_ GE348.out | refine bS ?_ GE359.out) | exact HB.out)⟩⟩
       rw [if_neg c28] at H
       have c28b0 : decide (x10_3 < (t354.length : Int)) = false := decide_eq_false c28
       clear c28
       by_cases c35 : x9_3 = true
       rotate_left
       · replace c35 := Bool.eq_false_iff.mpr c35
         subst c35
         have H1 : (some 62) = some r := by rw [if_neg (show ¬ (false = true) by decide)] at H; exact H
         clear H
         have H := H1
         clear H1
         obtain rfl := Option.some.inj H
         obtain ⟨Ao59, co59, eo59⟩ := Kd.R_slice HO_5.out
         subst eo59
         try go_wp2
         have n0_ := As.mk (Kd.R_drew HO_5.out)
         have n1_ := As.mk (kD BK348.out)
         have n2_ := As.mk (kD BK359.out)
         have n3_ := As.mk (bD HB.out)
         clear HO_5
         clear BK348
         clear BK359
         clear HB
         have HO_5 := n0_
         have BK348 := n1_
         have BK359 := n2_
         have HB := n3_
         clear n0_ n1_ n2_ n3_
         refine start_ (n := 26) (S := fun w' => True) (ds := []) #[false, false, false, false, false, false, false, false, false, false, false, false, false, false, false, false, false, false, false, false, false, false, false, false, false, false] (by kernel_rfl) rfl rfl trivial (fun hHeld => ?_); refine with_tabW majordomoref06_Check.tab20 majordomoref06_Check.bits20 (fun HT_ HW_ => ?_)
         generalize wr.drew = w60 at HO_5 BK348 BK359 HB hHeld ⊢
         refine pure_ (i := 0) (N := some 72) (v := ?_) (a' := ?_) #[true, false, false, false, false, false, false, false, false, false, false, false, false, false, false, false, false, false, false, false, false, false, false, false, false, false] rfl rfl (any_of HT_.out (by kernel_rfl)) (fun _ _ _ h => h) (Or.inl ⟨by rfl, ?_⟩) ?_ ?_
         rotate_left
         · intro w'
           go_simp
           with_reducible rfl
         rotate_left
         · simp only [Act.put, zA, zZ, zS, i64_w, i32_w]
           rfl
         refine pure_ (i := 1) (N := some 73) (v := ?_) (a' := ?_) #[true, true, false, false, false, false, false, false, false, false, false, false, false, false, false, false, false, false, false, false, false, false, false, false, false, false] rfl rfl (any_of HT_.out (by kernel_rfl)) (fun _ _ _ h => h) (Or.inl ⟨by rfl, ?_⟩) ?_ ?_
         rotate_left
         · intro w'
           go_simp
           with_reducible rfl
         rotate_left
         · simp only [Act.put, zA, zZ, zS, i64_w, i32_w]
           rfl
         refine pure_ (i := 2) (N := some 74) (v := ?_) (a' := ?_) #[true, true, true, false, false, false, false, false, false, false, false, false, false, false, false, false, false, false, false, false, false, false, false, false, false, false] rfl rfl (any_of HT_.out (by kernel_rfl)) (fun _ _ _ h => h) (Or.inl ⟨by rfl, ?_⟩) ?_ ?_
         rotate_left
         · intro w'
           go_simp
           with_reducible rfl
         rotate_left
         · simp only [Act.put, zA, zZ, zS, i64_w, i32_w]
           rfl
         refine pure_ (i := 3) (N := some 75) (v := undef) (a' := ?_) #[true, true, true, true, false, false, false, false, false, false, false, false, false, false, false, false, false, false, false, false, false, false, false, false, false, false] rfl rfl (any_of HT_.out (by kernel_rfl)) (fun _ _ _ h => h) (Or.inr ⟨by rfl, rfl⟩) ?_ ?_
         rotate_left
         · simp only [Act.put, zA, zZ, zS, i64_w, i32_w]
           rfl
         refine pure_ (i := 4) (N := some 76) (v := undef) (a' := ?_) #[true, true, true, true, true, false, false, false, false, false, false, false, false, false, false, false, false, false, false, false, false, false, false, false, false, false] rfl rfl (any_of HT_.out (by kernel_rfl)) (fun _ _ _ h => h) (Or.inr ⟨by rfl, rfl⟩) ?_ ?_
         rotate_left
         · simp only [Act.put, zA, zZ, zS, i64_w, i32_w]
           rfl
         refine pure_ (i := 5) (N := some 77) (v := undef) (a' := ?_) #[true, true, true, true, true, true, false, false, false, false, false, false, false, false, false, false, false, false, false, false, false, false, false, false, false, false] rfl rfl (any_of HT_.out (by kernel_rfl)) (fun _ _ _ h => h) (Or.inr ⟨by rfl, rfl⟩) ?_ ?_
         rotate_left
         · simp only [Act.put, zA, zZ, zS, i64_w, i32_w]
           rfl
         refine pure_ (i := 6) (N := some 78) (v := undef) (a' := ?_) #[true, true, true, true, true, true, true, false, false, false, false, false, false, false, false, false, false, false, false, false, false, false, false, false, false, false] rfl rfl (any_of HT_.out (by kernel_rfl)) (fun _ _ _ h => h) (Or.inr ⟨by rfl, rfl⟩) ?_ ?_
         rotate_left
         · simp only [Act.put, zA, zZ, zS, i64_w, i32_w]
           rfl
         refine pure_ (i := 7) (N := some 79) (v := undef) (a' := ?_) #[true, true, true, true, true, true, true, true, false, false, false, false, false, false, false, false, false, false, false, false, false, false, false, false, false, false] rfl rfl (any_of HT_.out (by kernel_rfl)) (fun _ _ _ h => h) (Or.inr ⟨by rfl, rfl⟩) ?_ ?_
         rotate_left
         · simp only [Act.put, zA, zZ, zS, i64_w, i32_w]
           rfl
         refine pure_ (i := 8) (N := some 80) (v := undef) (a' := ?_) #[true, true, true, true, true, true, true, true, true, false, false, false, false, false, false, false, false, false, false, false, false, false, false, false, false, false] rfl rfl (any_of HT_.out (by kernel_rfl)) (fun _ _ _ h => h) (Or.inr ⟨by rfl, rfl⟩) ?_ ?_
         rotate_left
         · simp only [Act.put, zA, zZ, zS, i64_w, i32_w]
           rfl
         refine pure_ (i := 9) (N := some 81) (v := undef) (a' := ?_) #[true, true, true, true, true, true, true, true, true, true, false, false, false, false, false, false, false, false, false, false, false, false, false, false, false, false] rfl rfl (any_of HT_.out (by kernel_rfl)) (fun _ _ _ h => h) (Or.inr ⟨by rfl, rfl⟩) ?_ ?_
         rotate_left
         · simp only [Act.put, zA, zZ, zS, i64_w, i32_w]
           rfl
         refine pure_ (i := 10) (N := some 82) (v := undef) (a' := ?_) #[true, true, true, true, true, true, true, true, true, true, true, false, false, false, false, false, false, false, false, false, false, false, false, false, false, false] rfl rfl (any_of HT_.out (by kernel_rfl)) (fun _ _ _ h => h) (Or.inr ⟨by rfl, rfl⟩) ?_ ?_
         rotate_left
         · simp only [Act.put, zA, zZ, zS, i64_w, i32_w]
           rfl
         refine pure_ (i := 11) (N := some 83) (v := undef) (a' := ?_) #[true, true, true, true, true, true, true, true, true, true, true, true, false, false, false, false, false, false, false, false, false, false, false, false, false, false] rfl rfl (any_of HT_.out (by kernel_rfl)) (fun _ _ _ h => h) (Or.inr ⟨by rfl, rfl⟩) ?_ ?_
         rotate_left
         · simp only [Act.put, zA, zZ, zS, i64_w, i32_w]
           rfl
         refine pure_ (i := 12) (N := some 84) (v := undef) (a' := ?_) #[true, true, true, true, true, true, true, true, true, true, true, true, true, false, false, false, false, false, false, false, false, false, false, false, false, false] rfl rfl (any_of HT_.out (by kernel_rfl)) (fun _ _ _ h => h) (Or.inr ⟨by rfl, rfl⟩) ?_ ?_
         rotate_left
         · simp only [Act.put, zA, zZ, zS, i64_w, i32_w]
           rfl
         refine pure_ (i := 13) (N := some 85) (v := undef) (a' := ?_) #[true, true, true, true, true, true, true, true, true, true, true, true, true, true, false, false, false, false, false, false, false, false, false, false, false, false] rfl rfl (any_of HT_.out (by kernel_rfl)) (fun _ _ _ h => h) (Or.inr ⟨by rfl, rfl⟩) ?_ ?_
         rotate_left
         · simp only [Act.put, zA, zZ, zS, i64_w, i32_w]
           rfl
         refine pure_ (i := 14) (N := some 86) (v := undef) (a' := ?_) #[true, true, true, true, true, true, true, true, true, true, true, true, true, true, true, false, false, false, false, false, false, false, false, false, false, false] rfl rfl (any_of HT_.out (by kernel_rfl)) (fun _ _ _ h => h) (Or.inr ⟨by rfl, rfl⟩) ?_ ?_
         rotate_left
         · simp only [Act.put, zA, zZ, zS, i64_w, i32_w]
           rfl
         refine pure_ (i := 15) (N := some 87) (v := undef) (a' := ?_) #[true, true, true, true, true, true, true, true, true, true, true, true, true, true, true, true, false, false, false, false, false, false, false, false, false, false] rfl rfl (any_of HT_.out (by kernel_rfl)) (fun _ _ _ h => h) (Or.inr ⟨by rfl, rfl⟩) ?_ ?_
         rotate_left
         · simp only [Act.put, zA, zZ, zS, i64_w, i32_w]
           rfl
         refine pure_ (i := 16) (N := some 88) (v := undef) (a' := ?_) #[true, true, true, true, true, true, true, true, true, true, true, true, true, true, true, true, true, false, false, false, false, false, false, false, false, false] rfl rfl (any_of HT_.out (by kernel_rfl)) (fun _ _ _ h => h) (Or.inr ⟨by rfl, rfl⟩) ?_ ?_
         rotate_left
         · simp only [Act.put, zA, zZ, zS, i64_w, i32_w]
           rfl
         refine pure_ (i := 17) (N := some 89) (v := ?_) (a' := ?_) #[true, true, true, true, true, true, true, true, true, true, true, true, true, true, true, true, true, true, false, false, false, false, false, false, false, false] rfl rfl (any_of HT_.out (by kernel_rfl)) (fun _ _ _ h => h) (Or.inl ⟨by rfl, ?_⟩) ?_ ?_
         rotate_left
         · intro w'
           go_simp
           with_reducible rfl
         rotate_left
         · simp only [Act.put, zA, zZ, zS, i64_w, i32_w]
           rfl
         refine pure_ (i := 18) (N := some 90) (v := ?_) (a' := ?_) #[true, true, true, true, true, true, true, true, true, true, true, true, true, true, true, true, true, true, true, false, false, false, false, false, false, false] rfl rfl (any_of HT_.out (by kernel_rfl)) (fun _ _ _ h => h) (Or.inl ⟨by rfl, ?_⟩) ?_ ?_
         rotate_left
         · intro w'
           go_simp
           with_reducible rfl
         rotate_left
         · simp only [Act.put, zA, zZ, zS, i64_w, i32_w]
           rfl
         refine pure_ (i := 19) (N := some 91) (v := undef) (a' := ?_) #[true, true, true, true, true, true, true, true, true, true, true, true, true, true, true, true, true, true, true, true, false, false, false, false, false, false] rfl rfl (any_of HT_.out (by kernel_rfl)) (fun _ _ _ h => h) (Or.inr ⟨by rfl, rfl⟩) ?_ ?_
         rotate_left
         · simp only [Act.put, zA, zZ, zS, i64_w, i32_w]
           rfl
         refine pure_ (i := 20) (N := some 92) (v := undef) (a' := ?_) #[true, true, true, true, true, true, true, true, true, true, true, true, true, true, true, true, true, true, true, true, true, false, false, false, false, false] rfl rfl (any_of HT_.out (by kernel_rfl)) (fun _ _ _ h => h) (Or.inr ⟨by rfl, rfl⟩) ?_ ?_
         rotate_left
         · simp only [Act.put, zA, zZ, zS, i64_w, i32_w]
           rfl
         refine pure_ (i := 21) (N := some 93) (v := undef) (a' := ?_) #[true, true, true, true, true, true, true, true, true, true, true, true, true, true, true, true, true, true, true, true, true, true, false, false, false, false] rfl rfl (any_of HT_.out (by kernel_rfl)) (fun _ _ _ h => h) (Or.inr ⟨by rfl, rfl⟩) ?_ ?_
         rotate_left
         · simp only [Act.put, zA, zZ, zS, i64_w, i32_w]
           rfl
         refine pure_ (i := 22) (N := some 94) (v := undef) (a' := ?_) #[true, true, true, true, true, true, true, true, true, true, true, true, true, true, true, true, true, true, true, true, true, true, true, false, false, false] rfl rfl (any_of HT_.out (by kernel_rfl)) (fun _ _ _ h => h) (Or.inr ⟨by rfl, rfl⟩) ?_ ?_
         rotate_left
         · simp only [Act.put, zA, zZ, zS, i64_w, i32_w]
           rfl
         refine pure_ (i := 23) (N := some 95) (v := undef) (a' := ?_) #[true, true, true, true, true, true, true, true, true, true, true, true, true, true, true, true, true, true, true, true, true, true, true, true, false, false] rfl rfl (any_of HT_.out (by kernel_rfl)) (fun _ _ _ h => h) (Or.inr ⟨by rfl, rfl⟩) ?_ ?_
         rotate_left
         · simp only [Act.put, zA, zZ, zS, i64_w, i32_w]
           rfl
         refine pure_ (i := 24) (N := some 96) (v := undef) (a' := ?_) #[true, true, true, true, true, true, true, true, true, true, true, true, true, true, true, true, true, true, true, true, true, true, true, true, true, false] rfl rfl (any_of HT_.out (by kernel_rfl)) (fun _ _ _ h => h) (Or.inr ⟨by rfl, rfl⟩) ?_ ?_
         rotate_left
         · simp only [Act.put, zA, zZ, zS, i64_w, i32_w]
           rfl
         refine pure_ (i := 25) (N := some 97) (v := ?_) (a' := ?_) #[true, true, true, true, true, true, true, true, true, true, true, true, true, true, true, true, true, true, true, true, true, true, true, true, true, true] rfl rfl (any_of HT_.out (by kernel_rfl)) (fun _ _ _ h => h) (Or.inl ⟨by rfl, ?_⟩) ?_ ?_
         rotate_left
         · intro w'
           go_simp
           with_reducible rfl
         rotate_left
         · simp only [Act.put, zA, zZ, zS, i64_w, i32_w]
           rfl
         refine done_ (done_of HT_.out (by kernel_rfl)) ?_
         try go_wp2
         go_ret
         exact ⟨by first | rfl | (simp [errW_none, errW_some] <;> rfl) | (simp [*, errW_none, errW_some] <;> rfl), by repeat (first | (with_reducible first | exact HB.out | apply bA | apply bN | apply bD | refine bS ?_ GE348.out | refine bS ?_ GE359.out) | exact HB.out)⟩
       subst c35
       have H1 : (if x7_2 > 0 then (if 0 ≤ (wrap64 (x7_2 - 1)) then (if (wrap64 (x7_2 - 1)) < (l0_2.length : Int) then (if ((Op.bytesLess (((rd_T31 l0_2 (wrap64 (x7_2 - 1))).f0).toList) ((rd_T31 l0_2 x7_2).f0).toList) = true) then ((majordomoref06_value.f k3 ((rd_T31 l0_2 x7_2).f0) ((rd_T31 l0_2 x7_2).f1)).bind fun t362 => (if t362 = true then (majordomoref06_Check.l0 k3 t354 (wrap64 (x7_2 + 1)) a0_0 a0_1 l0_2) else (some 62))) else (some 62)) else (none)) else (none)) else ((majordomoref06_value.f k3 ((rd_T31 l0_2 x7_2).f0) ((rd_T31 l0_2 x7_2).f1)).bind fun t363 => (if t363 = true then (majordomoref06_Check.l0 k3 t354 (wrap64 (x7_2 + 1)) a0_0 a0_1 l0_2) else (some 62)))) = some r := by rw [if_pos rfl] at H; exact H
       clear H
       have H := H1
       clear H1
       by_cases c36 : x7_2 > 0
       rotate_left
       · rw [if_neg c36] at H
         have c36b0 : decide (0 < x7_2) = false := decide_eq_false c36
         clear c36
         replace H := Option.bind_eq_some_iff.mp H
         obtain ⟨t363, A510, H⟩ := H
         replace H : (if t363 = true then (majordomoref06_Check.l0 k3 t354 (wrap64 (x7_2 + 1)) a0_0 a0_1 l0_2) else (some 62)) = some r := H
         have A51 := As.mk A510
         clear A510
         by_cases c52 : t363 = true
         rotate_left
         · replace c52 := Bool.eq_false_iff.mpr c52
           subst c52
           have H1 : (some 62) = some r := by rw [if_neg (show ¬ (false = true) by decide)] at H; exact H
           clear H
           have H := H1
           clear H1
           obtain rfl := Option.some.inj H
           obtain ⟨Ao56, co56, eo56⟩ := Kd.R_slice HO_5.out
           subst eo56
           try go_wp2
           have n0_ := As.mk (Kd.R_drew HO_5.out)
           have n1_ := As.mk (kD BK348.out)
           have n2_ := As.mk (kD BK359.out)
           have n3_ := As.mk (bD HB.out)
           clear HO_5
           clear BK348
           clear BK359
           clear HB
           have HO_5 := n0_
           have BK348 := n1_
           have BK359 := n2_
           have HB := n3_
           clear n0_ n1_ n2_ n3_
           refine start_ (n := 26) (S := fun w' => w'.cell? ⟨gb359, 0, none⟩ = some (.string ((rd_T31 l0_2 x7_2).f0)) ∧ w'.cell? ⟨gb359, 1, none⟩ = some (.string ((rd_T31 l0_2 x7_2).f1))) (ds := []) #[false, false, false, false, false, false, false, false, false, false, false, false, false, false, false, false, false, false, false, false, false, false, false, false, false, false] (by kernel_rfl) rfl rfl ⟨(kC BK359.out 0).trans rfl, (kC BK359.out 1).trans rfl⟩ (fun hHeld => ?_); refine with_tabW majordomoref06_Check.tab20 majordomoref06_Check.bits20 (fun HT_ HW_ => ?_)
           generalize wr.drew = w57 at HO_5 BK348 BK359 HB hHeld ⊢
           refine pure_ (i := 0) (N := some 72) (v := ?_) (a' := ?_) #[true, false, false, false, false, false, false, false, false, false, false, false, false, false, false, false, false, false, false, false, false, false, false, false, false, false] rfl rfl (any_of HT_.out (by kernel_rfl)) (fun _ _ _ h => h) (Or.inl ⟨by rfl, ?_⟩) ?_ ?_
           rotate_left
           · intro w'
             go_simp
             with_reducible rfl
           rotate_left
           · simp only [Act.put, zA, zZ, zS, i64_w, i32_w]
             rfl
           refine pure_ (i := 1) (N := some 73) (v := ?_) (a' := ?_) #[true, true, false, false, false, false, false, false, false, false, false, false, false, false, false, false, false, false, false, false, false, false, false, false, false, false] rfl rfl (any_of HT_.out (by kernel_rfl)) (fun _ _ _ h => h) (Or.inl ⟨by rfl, ?_⟩) ?_ ?_
           rotate_left
           · intro w'
             go_simp
             with_reducible rfl
           rotate_left
           · simp only [Act.put, zA, zZ, zS, i64_w, i32_w]
             rfl
           refine pure_ (i := 2) (N := some 74) (v := ?_) (a' := ?_) #[true, true, true, false, false, false, false, false, false, false, false, false, false, false, false, false, false, false, false, false, false, false, false, false, false, false] rfl rfl (any_of HT_.out (by kernel_rfl)) (fun _ _ _ h => h) (Or.inl ⟨by rfl, ?_⟩) ?_ ?_
           rotate_left
           · intro w'
             go_simp
             with_reducible rfl
           rotate_left
           · simp only [Act.put, zA, zZ, zS, i64_w, i32_w]
             rfl
           refine pure_ (i := 3) (N := some 75) (v := ?_) (a' := ?_) #[true, true, true, true, false, false, false, false, false, false, false, false, false, false, false, false, false, false, false, false, false, false, false, false, false, false] rfl rfl (any_of HT_.out (by kernel_rfl)) (fun _ _ _ h => h) (Or.inl ⟨by rfl, ?_⟩) ?_ ?_
           rotate_left
           · intro w'
             go_simp
             with_reducible rfl
           rotate_left
           · simp only [Act.put, zA, zZ, zS, i64_w, i32_w]
             rfl
           refine pure_ (i := 4) (N := some 76) (v := ?_) (a' := ?_) #[true, true, true, true, true, false, false, false, false, false, false, false, false, false, false, false, false, false, false, false, false, false, false, false, false, false] rfl rfl (any_of HT_.out (by kernel_rfl)) (fun _ _ _ h => h) (Or.inl ⟨by rfl, ?_⟩) ?_ ?_
           rotate_left
           · intro w'
             go_simp
             with_reducible rfl
           rotate_left
           · simp only [Act.put, zA, zZ, zS, i64_w, i32_w]
             rfl
           refine pure_ (i := 5) (N := some 77) (v := ?_) (a' := ?_) #[true, true, true, true, true, true, false, false, false, false, false, false, false, false, false, false, false, false, false, false, false, false, false, false, false, false] rfl rfl (any_of HT_.out (by kernel_rfl)) (fun _ _ _ h => h) (Or.inl ⟨by rfl, ?_⟩) ?_ ?_
           rotate_left
           · intro w'
             go_simp
             with_reducible rfl
           rotate_left
           · simp only [Act.put, zA, zZ, zS, i64_w, i32_w]
             rfl
           refine pure_ (i := 6) (N := some 78) (v := undef) (a' := ?_) #[true, true, true, true, true, true, true, false, false, false, false, false, false, false, false, false, false, false, false, false, false, false, false, false, false, false] rfl rfl (any_of HT_.out (by kernel_rfl)) (fun _ _ _ h => h) (Or.inr ⟨by rfl, rfl⟩) ?_ ?_
           rotate_left
           · simp only [Act.put, zA, zZ, zS, i64_w, i32_w]
             rfl
           refine pure_ (i := 7) (N := some 79) (v := undef) (a' := ?_) #[true, true, true, true, true, true, true, true, false, false, false, false, false, false, false, false, false, false, false, false, false, false, false, false, false, false] rfl rfl (any_of HT_.out (by kernel_rfl)) (fun _ _ _ h => h) (Or.inr ⟨by rfl, rfl⟩) ?_ ?_
           rotate_left
           · simp only [Act.put, zA, zZ, zS, i64_w, i32_w]
             rfl
           refine pure_ (i := 8) (N := some 80) (v := undef) (a' := ?_) #[true, true, true, true, true, true, true, true, true, false, false, false, false, false, false, false, false, false, false, false, false, false, false, false, false, false] rfl rfl (any_of HT_.out (by kernel_rfl)) (fun _ _ _ h => h) (Or.inr ⟨by rfl, rfl⟩) ?_ ?_
           rotate_left
           · simp only [Act.put, zA, zZ, zS, i64_w, i32_w]
             rfl
           refine pure_ (i := 9) (N := some 81) (v := undef) (a' := ?_) #[true, true, true, true, true, true, true, true, true, true, false, false, false, false, false, false, false, false, false, false, false, false, false, false, false, false] rfl rfl (any_of HT_.out (by kernel_rfl)) (fun _ _ _ h => h) (Or.inr ⟨by rfl, rfl⟩) ?_ ?_
           rotate_left
           · simp only [Act.put, zA, zZ, zS, i64_w, i32_w]
             rfl
           refine pure_ (i := 10) (N := some 82) (v := undef) (a' := ?_) #[true, true, true, true, true, true, true, true, true, true, true, false, false, false, false, false, false, false, false, false, false, false, false, false, false, false] rfl rfl (any_of HT_.out (by kernel_rfl)) (fun _ _ _ h => h) (Or.inr ⟨by rfl, rfl⟩) ?_ ?_
           rotate_left
           · simp only [Act.put, zA, zZ, zS, i64_w, i32_w]
             rfl
           refine pure_ (i := 11) (N := some 83) (v := undef) (a' := ?_) #[true, true, true, true, true, true, true, true, true, true, true, true, false, false, false, false, false, false, false, false, false, false, false, false, false, false] rfl rfl (any_of HT_.out (by kernel_rfl)) (fun _ _ _ h => h) (Or.inr ⟨by rfl, rfl⟩) ?_ ?_
           rotate_left
           · simp only [Act.put, zA, zZ, zS, i64_w, i32_w]
             rfl
           refine pure_ (i := 12) (N := some 84) (v := undef) (a' := ?_) #[true, true, true, true, true, true, true, true, true, true, true, true, true, false, false, false, false, false, false, false, false, false, false, false, false, false] rfl rfl (any_of HT_.out (by kernel_rfl)) (fun _ _ _ h => h) (Or.inr ⟨by rfl, rfl⟩) ?_ ?_
           rotate_left
           · simp only [Act.put, zA, zZ, zS, i64_w, i32_w]
             rfl
           refine pure_ (i := 13) (N := some 85) (v := undef) (a' := ?_) #[true, true, true, true, true, true, true, true, true, true, true, true, true, true, false, false, false, false, false, false, false, false, false, false, false, false] rfl rfl (any_of HT_.out (by kernel_rfl)) (fun _ _ _ h => h) (Or.inr ⟨by rfl, rfl⟩) ?_ ?_
           rotate_left
           · simp only [Act.put, zA, zZ, zS, i64_w, i32_w]
             rfl
           refine pure_ (i := 14) (N := some 86) (v := undef) (a' := ?_) #[true, true, true, true, true, true, true, true, true, true, true, true, true, true, true, false, false, false, false, false, false, false, false, false, false, false] rfl rfl (any_of HT_.out (by kernel_rfl)) (fun _ _ _ h => h) (Or.inr ⟨by rfl, rfl⟩) ?_ ?_
           rotate_left
           · simp only [Act.put, zA, zZ, zS, i64_w, i32_w]
             rfl
           refine pure_ (i := 15) (N := some 87) (v := undef) (a' := ?_) #[true, true, true, true, true, true, true, true, true, true, true, true, true, true, true, true, false, false, false, false, false, false, false, false, false, false] rfl rfl (any_of HT_.out (by kernel_rfl)) (fun _ _ _ h => h) (Or.inr ⟨by rfl, rfl⟩) ?_ ?_
           rotate_left
           · simp only [Act.put, zA, zZ, zS, i64_w, i32_w]
             rfl
           refine pure_ (i := 16) (N := some 88) (v := ?_) (a' := ?_) #[true, true, true, true, true, true, true, true, true, true, true, true, true, true, true, true, true, false, false, false, false, false, false, false, false, false] rfl rfl (any_of HT_.out (by kernel_rfl)) (fun _ _ _ h => h) (Or.inl ⟨by rfl, ?_⟩) ?_ ?_
           rotate_left
           · intro w'
             go_simp
             with_reducible rfl
           rotate_left
           · simp only [Act.put, zA, zZ, zS, i64_w, i32_w]
             rfl
           refine pure_ (i := 17) (N := some 89) (v := ?_) (a' := ?_) #[true, true, true, true, true, true, true, true, true, true, true, true, true, true, true, true, true, true, false, false, false, false, false, false, false, false] rfl rfl (any_of HT_.out (by kernel_rfl)) (fun _ _ _ h => h) (Or.inl ⟨by rfl, ?_⟩) ?_ ?_
           rotate_left
           · intro w'
             go_simp
             with_reducible rfl
           rotate_left
           · simp only [Act.put, zA, zZ, zS, i64_w, i32_w]
             rfl
           refine pure_ (i := 18) (N := some 90) (v := ?_) (a' := ?_) #[true, true, true, true, true, true, true, true, true, true, true, true, true, true, true, true, true, true, true, false, false, false, false, false, false, false] rfl rfl (any_of HT_.out (by kernel_rfl)) (fun _ _ _ h => h) (Or.inl ⟨by rfl, ?_⟩) ?_ ?_
           rotate_left
           · intro w'
             go_simp
             with_reducible rfl
           rotate_left
           · simp only [Act.put, zA, zZ, zS, i64_w, i32_w]
             rfl
           refine pure_ (i := 19) (N := some 91) (v := ?_) (a' := ?_) #[true, true, true, true, true, true, true, true, true, true, true, true, true, true, true, true, true, true, true, true, false, false, false, false, false, false] rfl rfl (any_of HT_.out (by kernel_rfl)) (fun _ _ _ h => h) (Or.inl ⟨by rfl, ?_⟩) ?_ ?_
           rotate_left
           · intro w'
             go_simp
             with_reducible rfl
           rotate_left
           · simp only [Act.put, zA, zZ, zS, i64_w, i32_w]
             rfl
           refine pure_ (i := 21) (N := some 93) (v := ?_) (a' := ?_) #[true, true, true, true, true, true, true, true, true, true, true, true, true, true, true, true, true, true, true, true, false, true, false, false, false, false] rfl rfl (any_of HT_.out (by kernel_rfl)) (fun _ _ _ h => h) (Or.inl ⟨by rfl, ?_⟩) ?_ ?_
           rotate_left
           · intro w'
             go_simp
             with_reducible rfl
           rotate_left
           · simp only [Act.put, zA, zZ, zS, i64_w, i32_w]
             rfl
           refine take_ (i := 20) (N := some 92) (v := ?_) (a' := ?_) #[true, true, true, true, true, true, true, true, true, true, true, true, true, true, true, true, true, true, true, true, true, true, false, false, false, false] rfl rfl (take_ofW HT_.out HW_.out (by kernel_rfl)) (fun _ _ _ h => h) (Or.inl ⟨by rfl, ?_⟩) hHeld ?_ ?_
           rotate_left
           · rintro w' ⟨s0, s1⟩
             go_simp
             with_reducible rfl
           rotate_left
           · simp only [Act.put, zA, zZ, zS, i64_w, i32_w]
             rfl
           refine take_ (i := 22) (N := some 94) (v := ?_) (a' := ?_) #[true, true, true, true, true, true, true, true, true, true, true, true, true, true, true, true, true, true, true, true, true, true, true, false, false, false] rfl rfl (take_ofW HT_.out HW_.out (by kernel_rfl)) (fun _ _ _ h => h) (Or.inl ⟨by rfl, ?_⟩) hHeld ?_ ?_
           rotate_left
           · rintro w' ⟨s0, s1⟩
             go_simp
             with_reducible rfl
           rotate_left
           · simp only [Act.put, zA, zZ, zS, i64_w, i32_w]
             rfl
           refine one_ (i := 23) (N := some 95) #[true, true, true, true, true, true, true, true, true, true, true, true, true, true, true, true, true, true, true, true, true, true, true, true, false, false] rfl rfl (one_of HT_.out (by kernel_rfl)) (by decide) (fun K hK => ?_)
           refine goes_ Tryz.func36 (by kernel_rfl) rfl #[.string ((rd_T31 l0_2 x7_2).f0), .string ((rd_T31 l0_2 x7_2).f1)] (by rfl) rfl rfl (by (try simp only [List.map_toArray, List.map_cons, List.map_nil]); first | done | rfl | (simp only [List.length_drop, List.length_take]; rfl)) ?_
           with_reducible refine (majordomoref06_value.calls k3 ((rd_T31 l0_2 x7_2).f0) ((rd_T31 l0_2 x7_2).f1) false _ A51.out).mono ?_
           rintro e w58 ⟨rfl, hb⟩
           refine ⟨_, rfl, ?_⟩
           have n0_ := As.mk (Kd.R_below (by (with_reducible repeat (first | apply Kd.R_alloc | apply Kd.R_drewN | apply Kd.R_drew)); exact HO_5.out) hb)
           have n1_ := As.mk (kB (g := gb348) (o := .cells #[.string a0_0, .string a0_1, .slice (some ad358) l0_2.length c0_2] 24 (0, 0)) (by (with_reducible repeat (first | refine kN ?_ _ | refine kD ?_ | refine kA ?_ _)); exact BK348.out) hb)
           have n2_ := As.mk (kB (g := gb359) (o := .cells #[.string ((rd_T31 l0_2 x7_2).f0), .string ((rd_T31 l0_2 x7_2).f1)] 31 (0, 0)) (by (with_reducible repeat (first | refine kN ?_ _ | refine kD ?_ | refine kA ?_ _)); exact BK359.out) hb)
           have n3_ := As.mk (bT (by repeat (first | (with_reducible first | exact HB.out | apply bA | apply bN | apply bD | refine bS ?_ GE348.out | refine bS ?_ GE359.out) | exact HB.out)) hb)
           clear HO_5
           clear BK348
           clear BK359
           clear HB
           have HO_5 := n0_
           have BK348 := n1_
           have BK359 := n2_
           have HB := n3_
           clear n0_ n1_ n2_ n3_
           (try clear hb)
           (try clear hb2)
           (try clear hk)
           (try clear hi)
           refine hK.out _ _ ⟨(kC BK359.out 0).trans rfl, (kC BK359.out 1).trans rfl⟩ (fun hHeld => ?_)
           clear hK K
           refine norm_ (a' := ?_) ?_ ?_
           rotate_left
           · show Act.put _ (some 95) _ = _
             simp only [Act.put, zA, zZ, zS, i64_w, i32_w]
             rfl
           refine pure_ (i := 24) (N := some 96) (v := ?_) (a' := ?_) #[true, true, true, true, true, true, true, true, true, true, true, true, true, true, true, true, true, true, true, true, true, true, true, true, true, false] rfl rfl (any_of HT_.out (by kernel_rfl)) (fun _ _ _ h => h) (Or.inl ⟨by rfl, ?_⟩) ?_ ?_
           rotate_left
           · intro w'
             go_simp
             with_reducible rfl
           rotate_left
           · simp only [Act.put, zA, zZ, zS, i64_w, i32_w]
             rfl
           refine pure_ (i := 25) (N := some 97) (v := ?_) (a' := ?_) #[true, true, true, true, true, true, true, true, true, true, true, true, true, true, true, true, true, true, true, true, true, true, true, true, true, true] rfl rfl (any_of HT_.out (by kernel_rfl)) (fun _ _ _ h => h) (Or.inl ⟨by rfl, ?_⟩) ?_ ?_
           rotate_left
           · intro w'
             go_simp
             with_reducible rfl
           rotate_left
           · simp only [Act.put, zA, zZ, zS, i64_w, i32_w]
             rfl
           refine done_ (done_of HT_.out (by kernel_rfl)) ?_
           try go_wp2
           go_ret
           exact ⟨by first | rfl | (simp [errW_none, errW_some] <;> rfl) | (simp [*, errW_none, errW_some] <;> rfl), by repeat (first | (with_reducible first | exact HB.out | apply bA | apply bN | apply bD | refine bS ?_ GE348.out | refine bS ?_ GE359.out) | exact HB.out)⟩
         subst c52
         have H1 : (majordomoref06_Check.l0 k3 t354 (wrap64 (x7_2 + 1)) a0_0 a0_1 l0_2) = some r := by rw [if_pos rfl] at H; exact H
         clear H
         have H := H1
         clear H1
         have H' := As.mk H
         clear H
         obtain ⟨Ao53, co53, eo53⟩ := Kd.R_slice HO_5.out
         subst eo53
         try go_wp2
         have n0_ := As.mk (Kd.R_drew HO_5.out)
         have n1_ := As.mk (kD BK348.out)
         have n2_ := As.mk (kD BK359.out)
         have n3_ := As.mk (bD HB.out)
         clear HO_5
         clear BK348
         clear BK359
         clear HB
         have HO_5 := n0_
         have BK348 := n1_
         have BK359 := n2_
         have HB := n3_
         clear n0_ n1_ n2_ n3_
         refine start_ (n := 26) (S := fun w' => w'.cell? ⟨gb359, 0, none⟩ = some (.string ((rd_T31 l0_2 x7_2).f0)) ∧ w'.cell? ⟨gb359, 1, none⟩ = some (.string ((rd_T31 l0_2 x7_2).f1))) (ds := []) #[false, false, false, false, false, false, false, false, false, false, false, false, false, false, false, false, false, false, false, false, false, false, false, false, false, false] (by kernel_rfl) rfl rfl ⟨(kC BK359.out 0).trans rfl, (kC BK359.out 1).trans rfl⟩ (fun hHeld => ?_); refine with_tabW majordomoref06_Check.tab20 majordomoref06_Check.bits20 (fun HT_ HW_ => ?_)
         generalize wr.drew = w54 at HO_5 BK348 BK359 HB hHeld ⊢
         refine pure_ (i := 0) (N := some 72) (v := ?_) (a' := ?_) #[true, false, false, false, false, false, false, false, false, false, false, false, false, false, false, false, false, false, false, false, false, false, false, false, false, false] rfl rfl (any_of HT_.out (by kernel_rfl)) (fun _ _ _ h => h) (Or.inl ⟨by rfl, ?_⟩) ?_ ?_
         rotate_left
         · intro w'
           go_simp
           with_reducible rfl
         rotate_left
         · simp only [Act.put, zA, zZ, zS, i64_w, i32_w]
           rfl
         refine pure_ (i := 1) (N := some 73) (v := ?_) (a' := ?_) #[true, true, false, false, false, false, false, false, false, false, false, false, false, false, false, false, false, false, false, false, false, false, false, false, false, false] rfl rfl (any_of HT_.out (by kernel_rfl)) (fun _ _ _ h => h) (Or.inl ⟨by rfl, ?_⟩) ?_ ?_
         rotate_left
         · intro w'
           go_simp
           with_reducible rfl
         rotate_left
         · simp only [Act.put, zA, zZ, zS, i64_w, i32_w]
           rfl
         refine pure_ (i := 2) (N := some 74) (v := ?_) (a' := ?_) #[true, true, true, false, false, false, false, false, false, false, false, false, false, false, false, false, false, false, false, false, false, false, false, false, false, false] rfl rfl (any_of HT_.out (by kernel_rfl)) (fun _ _ _ h => h) (Or.inl ⟨by rfl, ?_⟩) ?_ ?_
         rotate_left
         · intro w'
           go_simp
           with_reducible rfl
         rotate_left
         · simp only [Act.put, zA, zZ, zS, i64_w, i32_w]
           rfl
         refine pure_ (i := 3) (N := some 75) (v := ?_) (a' := ?_) #[true, true, true, true, false, false, false, false, false, false, false, false, false, false, false, false, false, false, false, false, false, false, false, false, false, false] rfl rfl (any_of HT_.out (by kernel_rfl)) (fun _ _ _ h => h) (Or.inl ⟨by rfl, ?_⟩) ?_ ?_
         rotate_left
         · intro w'
           go_simp
           with_reducible rfl
         rotate_left
         · simp only [Act.put, zA, zZ, zS, i64_w, i32_w]
           rfl
         refine pure_ (i := 4) (N := some 76) (v := ?_) (a' := ?_) #[true, true, true, true, true, false, false, false, false, false, false, false, false, false, false, false, false, false, false, false, false, false, false, false, false, false] rfl rfl (any_of HT_.out (by kernel_rfl)) (fun _ _ _ h => h) (Or.inl ⟨by rfl, ?_⟩) ?_ ?_
         rotate_left
         · intro w'
           go_simp
           with_reducible rfl
         rotate_left
         · simp only [Act.put, zA, zZ, zS, i64_w, i32_w]
           rfl
         refine pure_ (i := 5) (N := some 77) (v := ?_) (a' := ?_) #[true, true, true, true, true, true, false, false, false, false, false, false, false, false, false, false, false, false, false, false, false, false, false, false, false, false] rfl rfl (any_of HT_.out (by kernel_rfl)) (fun _ _ _ h => h) (Or.inl ⟨by rfl, ?_⟩) ?_ ?_
         rotate_left
         · intro w'
           go_simp
           with_reducible rfl
         rotate_left
         · simp only [Act.put, zA, zZ, zS, i64_w, i32_w]
           rfl
         refine pure_ (i := 6) (N := some 78) (v := undef) (a' := ?_) #[true, true, true, true, true, true, true, false, false, false, false, false, false, false, false, false, false, false, false, false, false, false, false, false, false, false] rfl rfl (any_of HT_.out (by kernel_rfl)) (fun _ _ _ h => h) (Or.inr ⟨by rfl, rfl⟩) ?_ ?_
         rotate_left
         · simp only [Act.put, zA, zZ, zS, i64_w, i32_w]
           rfl
         refine pure_ (i := 7) (N := some 79) (v := undef) (a' := ?_) #[true, true, true, true, true, true, true, true, false, false, false, false, false, false, false, false, false, false, false, false, false, false, false, false, false, false] rfl rfl (any_of HT_.out (by kernel_rfl)) (fun _ _ _ h => h) (Or.inr ⟨by rfl, rfl⟩) ?_ ?_
         rotate_left
         · simp only [Act.put, zA, zZ, zS, i64_w, i32_w]
           rfl
         refine pure_ (i := 8) (N := some 80) (v := undef) (a' := ?_) #[true, true, true, true, true, true, true, true, true, false, false, false, false, false, false, false, false, false, false, false, false, false, false, false, false, false] rfl rfl (any_of HT_.out (by kernel_rfl)) (fun _ _ _ h => h) (Or.inr ⟨by rfl, rfl⟩) ?_ ?_
         rotate_left
         · simp only [Act.put, zA, zZ, zS, i64_w, i32_w]
           rfl
         refine pure_ (i := 9) (N := some 81) (v := undef) (a' := ?_) #[true, true, true, true, true, true, true, true, true, true, false, false, false, false, false, false, false, false, false, false, false, false, false, false, false, false] rfl rfl (any_of HT_.out (by kernel_rfl)) (fun _ _ _ h => h) (Or.inr ⟨by rfl, rfl⟩) ?_ ?_
         rotate_left
         · simp only [Act.put, zA, zZ, zS, i64_w, i32_w]
           rfl
         refine pure_ (i := 10) (N := some 82) (v := undef) (a' := ?_) #[true, true, true, true, true, true, true, true, true, true, true, false, false, false, false, false, false, false, false, false, false, false, false, false, false, false] rfl rfl (any_of HT_.out (by kernel_rfl)) (fun _ _ _ h => h) (Or.inr ⟨by rfl, rfl⟩) ?_ ?_
         rotate_left
         · simp only [Act.put, zA, zZ, zS, i64_w, i32_w]
           rfl
         refine pure_ (i := 11) (N := some 83) (v := undef) (a' := ?_) #[true, true, true, true, true, true, true, true, true, true, true, true, false, false, false, false, false, false, false, false, false, false, false, false, false, false] rfl rfl (any_of HT_.out (by kernel_rfl)) (fun _ _ _ h => h) (Or.inr ⟨by rfl, rfl⟩) ?_ ?_
         rotate_left
         · simp only [Act.put, zA, zZ, zS, i64_w, i32_w]
           rfl
         refine pure_ (i := 12) (N := some 84) (v := undef) (a' := ?_) #[true, true, true, true, true, true, true, true, true, true, true, true, true, false, false, false, false, false, false, false, false, false, false, false, false, false] rfl rfl (any_of HT_.out (by kernel_rfl)) (fun _ _ _ h => h) (Or.inr ⟨by rfl, rfl⟩) ?_ ?_
         rotate_left
         · simp only [Act.put, zA, zZ, zS, i64_w, i32_w]
           rfl
         refine pure_ (i := 13) (N := some 85) (v := undef) (a' := ?_) #[true, true, true, true, true, true, true, true, true, true, true, true, true, true, false, false, false, false, false, false, false, false, false, false, false, false] rfl rfl (any_of HT_.out (by kernel_rfl)) (fun _ _ _ h => h) (Or.inr ⟨by rfl, rfl⟩) ?_ ?_
         rotate_left
         · simp only [Act.put, zA, zZ, zS, i64_w, i32_w]
           rfl
         refine pure_ (i := 14) (N := some 86) (v := undef) (a' := ?_) #[true, true, true, true, true, true, true, true, true, true, true, true, true, true, true, false, false, false, false, false, false, false, false, false, false, false] rfl rfl (any_of HT_.out (by kernel_rfl)) (fun _ _ _ h => h) (Or.inr ⟨by rfl, rfl⟩) ?_ ?_
         rotate_left
         · simp only [Act.put, zA, zZ, zS, i64_w, i32_w]
           rfl
         refine pure_ (i := 15) (N := some 87) (v := undef) (a' := ?_) #[true, true, true, true, true, true, true, true, true, true, true, true, true, true, true, true, false, false, false, false, false, false, false, false, false, false] rfl rfl (any_of HT_.out (by kernel_rfl)) (fun _ _ _ h => h) (Or.inr ⟨by rfl, rfl⟩) ?_ ?_
         rotate_left
         · simp only [Act.put, zA, zZ, zS, i64_w, i32_w]
           rfl
         refine pure_ (i := 16) (N := some 88) (v := ?_) (a' := ?_) #[true, true, true, true, true, true, true, true, true, true, true, true, true, true, true, true, true, false, false, false, false, false, false, false, false, false] rfl rfl (any_of HT_.out (by kernel_rfl)) (fun _ _ _ h => h) (Or.inl ⟨by rfl, ?_⟩) ?_ ?_
         rotate_left
         · intro w'
           go_simp
           with_reducible rfl
         rotate_left
         · simp only [Act.put, zA, zZ, zS, i64_w, i32_w]
           rfl
         refine pure_ (i := 17) (N := some 89) (v := ?_) (a' := ?_) #[true, true, true, true, true, true, true, true, true, true, true, true, true, true, true, true, true, true, false, false, false, false, false, false, false, false] rfl rfl (any_of HT_.out (by kernel_rfl)) (fun _ _ _ h => h) (Or.inl ⟨by rfl, ?_⟩) ?_ ?_
         rotate_left
         · intro w'
           go_simp
           with_reducible rfl
         rotate_left
         · simp only [Act.put, zA, zZ, zS, i64_w, i32_w]
           rfl
         refine pure_ (i := 18) (N := some 90) (v := ?_) (a' := ?_) #[true, true, true, true, true, true, true, true, true, true, true, true, true, true, true, true, true, true, true, false, false, false, false, false, false, false] rfl rfl (any_of HT_.out (by kernel_rfl)) (fun _ _ _ h => h) (Or.inl ⟨by rfl, ?_⟩) ?_ ?_
         rotate_left
         · intro w'
           go_simp
           with_reducible rfl
         rotate_left
         · simp only [Act.put, zA, zZ, zS, i64_w, i32_w]
           rfl
         refine pure_ (i := 19) (N := some 91) (v := ?_) (a' := ?_) #[true, true, true, true, true, true, true, true, true, true, true, true, true, true, true, true, true, true, true, true, false, false, false, false, false, false] rfl rfl (any_of HT_.out (by kernel_rfl)) (fun _ _ _ h => h) (Or.inl ⟨by rfl, ?_⟩) ?_ ?_
         rotate_left
         · intro w'
           go_simp
           with_reducible rfl
         rotate_left
         · simp only [Act.put, zA, zZ, zS, i64_w, i32_w]
           rfl
         refine pure_ (i := 21) (N := some 93) (v := ?_) (a' := ?_) #[true, true, true, true, true, true, true, true, true, true, true, true, true, true, true, true, true, true, true, true, false, true, false, false, false, false] rfl rfl (any_of HT_.out (by kernel_rfl)) (fun _ _ _ h => h) (Or.inl ⟨by rfl, ?_⟩) ?_ ?_
         rotate_left
         · intro w'
           go_simp
           with_reducible rfl
         rotate_left
         · simp only [Act.put, zA, zZ, zS, i64_w, i32_w]
           rfl
         refine take_ (i := 20) (N := some 92) (v := ?_) (a' := ?_) #[true, true, true, true, true, true, true, true, true, true, true, true, true, true, true, true, true, true, true, true, true, true, false, false, false, false] rfl rfl (take_ofW HT_.out HW_.out (by kernel_rfl)) (fun _ _ _ h => h) (Or.inl ⟨by rfl, ?_⟩) hHeld ?_ ?_
         rotate_left
         · rintro w' ⟨s0, s1⟩
           go_simp
           with_reducible rfl
         rotate_left
         · simp only [Act.put, zA, zZ, zS, i64_w, i32_w]
           rfl
         refine take_ (i := 22) (N := some 94) (v := ?_) (a' := ?_) #[true, true, true, true, true, true, true, true, true, true, true, true, true, true, true, true, true, true, true, true, true, true, true, false, false, false] rfl rfl (take_ofW HT_.out HW_.out (by kernel_rfl)) (fun _ _ _ h => h) (Or.inl ⟨by rfl, ?_⟩) hHeld ?_ ?_
         rotate_left
         · rintro w' ⟨s0, s1⟩
           go_simp
           with_reducible rfl
         rotate_left
         · simp only [Act.put, zA, zZ, zS, i64_w, i32_w]
           rfl
         refine one_ (i := 23) (N := some 95) #[true, true, true, true, true, true, true, true, true, true, true, true, true, true, true, true, true, true, true, true, true, true, true, true, false, false] rfl rfl (one_of HT_.out (by kernel_rfl)) (by decide) (fun K hK => ?_)
         refine goes_ Tryz.func36 (by kernel_rfl) rfl #[.string ((rd_T31 l0_2 x7_2).f0), .string ((rd_T31 l0_2 x7_2).f1)] (by rfl) rfl rfl (by (try simp only [List.map_toArray, List.map_cons, List.map_nil]); first | done | rfl | (simp only [List.length_drop, List.length_take]; rfl)) ?_
         with_reducible refine (majordomoref06_value.calls k3 ((rd_T31 l0_2 x7_2).f0) ((rd_T31 l0_2 x7_2).f1) true _ A51.out).mono ?_
         rintro e w55 ⟨rfl, hb⟩
         refine ⟨_, rfl, ?_⟩
         have n0_ := As.mk (Kd.R_below (by (with_reducible repeat (first | apply Kd.R_alloc | apply Kd.R_drewN | apply Kd.R_drew)); exact HO_5.out) hb)
         have n1_ := As.mk (kB (g := gb348) (o := .cells #[.string a0_0, .string a0_1, .slice (some ad358) l0_2.length c0_2] 24 (0, 0)) (by (with_reducible repeat (first | refine kN ?_ _ | refine kD ?_ | refine kA ?_ _)); exact BK348.out) hb)
         have n2_ := As.mk (kB (g := gb359) (o := .cells #[.string ((rd_T31 l0_2 x7_2).f0), .string ((rd_T31 l0_2 x7_2).f1)] 31 (0, 0)) (by (with_reducible repeat (first | refine kN ?_ _ | refine kD ?_ | refine kA ?_ _)); exact BK359.out) hb)
         have n3_ := As.mk (bT (by repeat (first | (with_reducible first | exact HB.out | apply bA | apply bN | apply bD | refine bS ?_ GE348.out | refine bS ?_ GE359.out) | exact HB.out)) hb)
         clear HO_5
         clear BK348
         clear BK359
         clear HB
         have HO_5 := n0_
         have BK348 := n1_
         have BK359 := n2_
         have HB := n3_
         clear n0_ n1_ n2_ n3_
         (try clear hb)
         (try clear hb2)
         (try clear hk)
         (try clear hi)
         refine hK.out _ _ ⟨(kC BK359.out 0).trans rfl, (kC BK359.out 1).trans rfl⟩ (fun hHeld => ?_)
         clear hK K
         refine norm_ (a' := ?_) ?_ ?_
         rotate_left
         · show Act.put _ (some 95) _ = _
           simp only [Act.put, zA, zZ, zS, i64_w, i32_w]
           rfl
         refine pure_ (i := 24) (N := some 96) (v := ?_) (a' := ?_) #[true, true, true, true, true, true, true, true, true, true, true, true, true, true, true, true, true, true, true, true, true, true, true, true, true, false] rfl rfl (any_of HT_.out (by kernel_rfl)) (fun _ _ _ h => h) (Or.inl ⟨by rfl, ?_⟩) ?_ ?_
         rotate_left
         · intro w'
           go_simp
           with_reducible rfl
         rotate_left
         · simp only [Act.put, zA, zZ, zS, i64_w, i32_w]
           rfl
         refine pure_ (i := 25) (N := some 97) (v := ?_) (a' := ?_) #[true, true, true, true, true, true, true, true, true, true, true, true, true, true, true, true, true, true, true, true, true, true, true, true, true, true] rfl rfl (any_of HT_.out (by kernel_rfl)) (fun _ _ _ h => h) (Or.inl ⟨by rfl, ?_⟩) ?_ ?_
         rotate_left
         · intro w'
           go_simp
           with_reducible rfl
         rotate_left
         · simp only [Act.put, zA, zZ, zS, i64_w, i32_w]
           rfl
         refine done_ (done_of HT_.out (by kernel_rfl)) ?_
         try go_wp2
         go_roundg k3
         case measure => have := HJ8.out; have := HK2.out; have := HK3.out; omega
         case rel => exact ⟨(wrap64 (x7_2 + 1)), (by first | rfl | (simp; done) | (simp [*]; done)), H', ⟨by have := HJ8.out; have := HK2.out; have := HK3.out; omega⟩, ⟨by (with_reducible repeat (first | apply Kd.R_alloc | apply Kd.R_drewN | apply Kd.R_drew)); exact HO_5.out⟩, ⟨by (with_reducible repeat (first | refine kN ?_ _ | refine kD ?_ | refine kA ?_ _)); exact BK348.out⟩, ⟨by repeat (first | (with_reducible first | exact HB.out | apply bA | apply bN | apply bD | refine bS ?_ GE348.out | refine bS ?_ GE359.out) | exact HB.out)⟩⟩
       rw [if_pos c36] at H
       have c36b0 : decide (0 < x7_2) = true := decide_eq_true c36
       clear c36
       obtain ⟨ji37, hji37⟩ : ∃ j_ : Int, (wrap64 (x7_2 - 1)) = j_ := ⟨_, rfl⟩
       replace H : (if 0 ≤ (ji37) then (if (ji37) < (l0_2.length : Int) then (if ((Op.bytesLess (((rd_T31 l0_2 (ji37)).f0).toList) ((rd_T31 l0_2 x7_2).f0).toList) = true) then ((majordomoref06_value.f k3 ((rd_T31 l0_2 x7_2).f0) ((rd_T31 l0_2 x7_2).f1)).bind fun t362 => (if t362 = true then (majordomoref06_Check.l0 k3 t354 (wrap64 (x7_2 + 1)) a0_0 a0_1 l0_2) else (some 62))) else (some 62)) else (none)) else (none)) = some r := by first | (rw [hji37] at H; exact H) | (simp only [hji37] at H ⊢; exact H)
       have hji37w : (IntKind.i64.wrap (x7_2 - 1)) = ji37 := (i64_w _).trans hji37
       by_cases c38 : 0 ≤ (ji37)
       rotate_left
       · rw [if_neg c38] at H
         exact absurd H (by simp)
       rw [if_pos c38] at H
       have c38b0 : decide (0 ≤ (ji37)) = true := decide_eq_true c38
       clear c38
       by_cases c39 : (ji37) < (l0_2.length : Int)
       rotate_left
       · rw [if_neg c39] at H
         exact absurd H (by simp)
       rw [if_pos c39] at H
       have c39b0 : decide ((ji37) < (l0_2.length : Int)) = true := decide_eq_true c39
       clear c39
       by_cases c40 : ((Op.bytesLess (((rd_T31 l0_2 (ji37)).f0).toList) ((rd_T31 l0_2 x7_2).f0).toList) = true)
       rotate_left
       · rw [if_neg c40] at H
         have c40b0 : (Op.bytesLess (((rd_T31 l0_2 (ji37)).f0).toList) ((rd_T31 l0_2 x7_2).f0).toList) = false := by simpa using c40
         clear c40
         obtain rfl := Option.some.inj H
         obtain ⟨Ao49, co49, eo49⟩ := Kd.R_slice HO_5.out
         subst eo49
         try go_wp2
         have n0_ := As.mk (Kd.R_drew HO_5.out)
         have n1_ := As.mk (kD BK348.out)
         have n2_ := As.mk (kD BK359.out)
         have n3_ := As.mk (bD HB.out)
         clear HO_5
         clear BK348
         clear BK359
         clear HB
         have HO_5 := n0_
         have BK348 := n1_
         have BK359 := n2_
         have HB := n3_
         clear n0_ n1_ n2_ n3_
         have p361 : 0 ≤ ((ji37) : Int) := of_decide_eq_true (by first | (with_reducible assumption) | assumption)
         have q361 : (ji37) < (l0_2.length : Int) := of_decide_eq_true (by first | (with_reducible assumption) | assumption)
         obtain ⟨ad361, e361, hx361_0, hx361_1⟩ := at_T31 HR0_2.out (ji37) p361 q361
         have hw361_1 := hx361_1
         have hw361_0 := hx361_0
         obtain rfl : ad358 = ad361 := (by injection e361)
         replace hx361_0 := (HB.out.cell (World.block_lt_of_cell? w _ hx361_0)).trans hx361_0
         replace hx361_1 := (HB.out.cell (World.block_lt_of_cell? w _ hx361_1)).trans hx361_1
         replace p361 := eq_true p361
         replace q361 := eq_true q361
         refine start_ (n := 26) (S := fun w' => w'.cell? ⟨gb359, 0, none⟩ = some (.string ((rd_T31 l0_2 x7_2).f0)) ∧ w'.cell? ⟨gb359, 1, none⟩ = some (.string ((rd_T31 l0_2 x7_2).f1)) ∧ w'.cell? ⟨gb348, 0, none⟩ = some (.string a0_0) ∧ w'.cell? ⟨gb348, 1, none⟩ = some (.string a0_1) ∧ w'.cell? ⟨gb348, 2, none⟩ = some (.slice (some ad358) l0_2.length c0_2) ∧ w'.cell? (ad358.add (((ji37)).toNat * 2)) = some (.string ((rd_T31 l0_2 (ji37)).f0)) ∧ w'.cell? ⟨(ad358.add (((ji37)).toNat * 2)).block, (ad358.add (((ji37)).toNat * 2)).off + 1, none⟩ = some (.string ((rd_T31 l0_2 (ji37)).f1))) (ds := []) #[false, false, false, false, false, false, false, false, false, false, false, false, false, false, false, false, false, false, false, false, false, false, false, false, false, false] (by kernel_rfl) rfl rfl ⟨(kC BK359.out 0).trans rfl, (kC BK359.out 1).trans rfl, (kC BK348.out 0).trans rfl, (kC BK348.out 1).trans rfl, (kC BK348.out 2).trans rfl, ((HB.out.cell (World.block_lt_of_cell? w _ hw361_0)).trans hw361_0), ((HB.out.cell (World.block_lt_of_cell? w _ hw361_1)).trans hw361_1)⟩ (fun hHeld => ?_); refine with_tabW majordomoref06_Check.tab20 majordomoref06_Check.bits20 (fun HT_ HW_ => ?_)
         generalize wr.drew = w50 at HO_5 BK348 BK359 HB hx361_0 hx361_1 hHeld ⊢
         refine pure_ (i := 0) (N := some 72) (v := ?_) (a' := ?_) #[true, false, false, false, false, false, false, false, false, false, false, false, false, false, false, false, false, false, false, false, false, false, false, false, false, false] rfl rfl (any_of HT_.out (by kernel_rfl)) (fun _ _ _ h => h) (Or.inl ⟨by rfl, ?_⟩) ?_ ?_
         rotate_left
         · intro w'
           go_simp
           with_reducible rfl
         rotate_left
         · simp only [Act.put, zA, zZ, zS, i64_w, i32_w]
           rfl
         refine pure_ (i := 1) (N := some 73) (v := ?_) (a' := ?_) #[true, true, false, false, false, false, false, false, false, false, false, false, false, false, false, false, false, false, false, false, false, false, false, false, false, false] rfl rfl (any_of HT_.out (by kernel_rfl)) (fun _ _ _ h => h) (Or.inl ⟨by rfl, ?_⟩) ?_ ?_
         rotate_left
         · intro w'
           go_simp
           with_reducible rfl
         rotate_left
         · simp only [Act.put, zA, zZ, zS, i64_w, i32_w]
           rfl
         refine pure_ (i := 2) (N := some 74) (v := ?_) (a' := ?_) #[true, true, true, false, false, false, false, false, false, false, false, false, false, false, false, false, false, false, false, false, false, false, false, false, false, false] rfl rfl (any_of HT_.out (by kernel_rfl)) (fun _ _ _ h => h) (Or.inl ⟨by rfl, ?_⟩) ?_ ?_
         rotate_left
         · intro w'
           go_simp
           with_reducible rfl
         rotate_left
         · simp only [Act.put, zA, zZ, zS, i64_w, i32_w]
           rfl
         refine pure_ (i := 3) (N := some 75) (v := ?_) (a' := ?_) #[true, true, true, true, false, false, false, false, false, false, false, false, false, false, false, false, false, false, false, false, false, false, false, false, false, false] rfl rfl (any_of HT_.out (by kernel_rfl)) (fun _ _ _ h => h) (Or.inl ⟨by rfl, ?_⟩) ?_ ?_
         rotate_left
         · intro w'
           go_simp
           with_reducible rfl
         rotate_left
         · simp only [Act.put, zA, zZ, zS, i64_w, i32_w]
           rfl
         refine pure_ (i := 4) (N := some 76) (v := ?_) (a' := ?_) #[true, true, true, true, true, false, false, false, false, false, false, false, false, false, false, false, false, false, false, false, false, false, false, false, false, false] rfl rfl (any_of HT_.out (by kernel_rfl)) (fun _ _ _ h => h) (Or.inl ⟨by rfl, ?_⟩) ?_ ?_
         rotate_left
         · intro w'
           go_simp
           with_reducible rfl
         rotate_left
         · simp only [Act.put, zA, zZ, zS, i64_w, i32_w]
           rfl
         refine pure_ (i := 5) (N := some 77) (v := ?_) (a' := ?_) #[true, true, true, true, true, true, false, false, false, false, false, false, false, false, false, false, false, false, false, false, false, false, false, false, false, false] rfl rfl (any_of HT_.out (by kernel_rfl)) (fun _ _ _ h => h) (Or.inl ⟨by rfl, ?_⟩) ?_ ?_
         rotate_left
         · intro w'
           go_simp
           with_reducible rfl
         rotate_left
         · simp only [Act.put, zA, zZ, zS, i64_w, i32_w]
           rfl
         refine pure_ (i := 6) (N := some 78) (v := ?_) (a' := ?_) #[true, true, true, true, true, true, true, false, false, false, false, false, false, false, false, false, false, false, false, false, false, false, false, false, false, false] rfl rfl (any_of HT_.out (by kernel_rfl)) (fun _ _ _ h => h) (Or.inl ⟨by rfl, ?_⟩) ?_ ?_
         rotate_left
         · intro w'
           go_simp
           with_reducible rfl
         rotate_left
         · simp only [Act.put, zA, zZ, zS, i64_w, i32_w]
           rfl
         refine pure_ (i := 8) (N := some 80) (v := ?_) (a' := ?_) #[true, true, true, true, true, true, true, false, true, false, false, false, false, false, false, false, false, false, false, false, false, false, false, false, false, false] rfl rfl (any_of HT_.out (by kernel_rfl)) (fun _ _ _ h => h) (Or.inl ⟨by rfl, ?_⟩) ?_ ?_
         rotate_left
         · intro w'
           go_simp
           with_reducible rfl
         rotate_left
         · simp only [Act.put, zA, zZ, zS, i64_w, i32_w]
           rfl
         refine pure_ (i := 10) (N := some 82) (v := ?_) (a' := ?_) #[true, true, true, true, true, true, true, false, true, false, true, false, false, false, false, false, false, false, false, false, false, false, false, false, false, false] rfl rfl (any_of HT_.out (by kernel_rfl)) (fun _ _ _ h => h) (Or.inl ⟨by rfl, ?_⟩) ?_ ?_
         rotate_left
         · intro w'
           go_simp
           with_reducible rfl
         rotate_left
         · simp only [Act.put, zA, zZ, zS, i64_w, i32_w]
           rfl
         refine pure_ (i := 11) (N := some 83) (v := ?_) (a' := ?_) #[true, true, true, true, true, true, true, false, true, false, true, true, false, false, false, false, false, false, false, false, false, false, false, false, false, false] rfl rfl (any_of HT_.out (by kernel_rfl)) (fun _ _ _ h => h) (Or.inl ⟨by rfl, ?_⟩) ?_ ?_
         rotate_left
         · intro w'
           go_simp
           with_reducible rfl
         rotate_left
         · simp only [Act.put, zA, zZ, zS, i64_w, i32_w]
           rfl
         refine take_ (i := 7) (N := some 79) (v := ?_) (a' := ?_) #[true, true, true, true, true, true, true, true, true, false, true, true, false, false, false, false, false, false, false, false, false, false, false, false, false, false] rfl rfl (take_ofW HT_.out HW_.out (by kernel_rfl)) (fun _ _ _ h => h) (Or.inl ⟨by rfl, ?_⟩) hHeld ?_ ?_
         rotate_left
         · rintro w' ⟨s0, s1, s2, s3, s4, s5, s6⟩
           go_simp
           with_reducible rfl
         rotate_left
         · simp only [Act.put, zA, zZ, zS, i64_w, i32_w]
           rfl
         refine take_ (i := 9) (N := some 81) (v := ?_) (a' := ?_) #[true, true, true, true, true, true, true, true, true, true, true, true, false, false, false, false, false, false, false, false, false, false, false, false, false, false] rfl rfl (take_ofW HT_.out HW_.out (by kernel_rfl)) (fun _ _ _ h => h) (Or.inl ⟨by rfl, ?_⟩) hHeld ?_ ?_
         rotate_left
         · rintro w' ⟨s0, s1, s2, s3, s4, s5, s6⟩
           go_simp
           with_reducible rfl
         rotate_left
         · simp only [Act.put, zA, zZ, zS, i64_w, i32_w]
           rfl
         refine pure_ (i := 12) (N := some 84) (v := ?_) (a' := ?_) #[true, true, true, true, true, true, true, true, true, true, true, true, true, false, false, false, false, false, false, false, false, false, false, false, false, false] rfl rfl (any_of HT_.out (by kernel_rfl)) (fun _ _ _ h => h) (Or.inl ⟨by rfl, ?_⟩) ?_ ?_
         rotate_left
         · intro w'
           go_simp
           with_reducible rfl
         rotate_left
         · simp only [Act.put, zA, zZ, zS, i64_w, i32_w]
           rfl
         refine pure_ (i := 13) (N := some 85) (v := ?_) (a' := ?_) #[true, true, true, true, true, true, true, true, true, true, true, true, true, true, false, false, false, false, false, false, false, false, false, false, false, false] rfl rfl (any_of HT_.out (by kernel_rfl)) (fun _ _ _ h => h) (Or.inl ⟨by rfl, ?_⟩) ?_ ?_
         rotate_left
         · intro w'
           go_simp
           with_reducible rfl
         rotate_left
         · simp only [Act.put, zA, zZ, zS, i64_w, i32_w]
           rfl
         refine take_ (i := 14) (N := some 86) (v := ?_) (a' := ?_) #[true, true, true, true, true, true, true, true, true, true, true, true, true, true, true, false, false, false, false, false, false, false, false, false, false, false] rfl rfl (take_ofW HT_.out HW_.out (by kernel_rfl)) (fun _ _ _ h => h) (Or.inl ⟨by rfl, ?_⟩) hHeld ?_ ?_
         rotate_left
         · rintro w' ⟨s0, s1, s2, s3, s4, s5, s6⟩
           go_simp
           with_reducible rfl
         rotate_left
         · simp only [Act.put, zA, zZ, zS, i64_w, i32_w]
           rfl
         refine pure_ (i := 15) (N := some 87) (v := ?_) (a' := ?_) #[true, true, true, true, true, true, true, true, true, true, true, true, true, true, true, true, false, false, false, false, false, false, false, false, false, false] rfl rfl (any_of HT_.out (by kernel_rfl)) (fun _ _ _ h => h) (Or.inl ⟨by rfl, ?_⟩) ?_ ?_
         rotate_left
         · intro w'
           go_simp
           with_reducible rfl
         rotate_left
         · simp only [Act.put, zA, zZ, zS, i64_w, i32_w]
           rfl
         refine pure_ (i := 16) (N := some 88) (v := ?_) (a' := ?_) #[true, true, true, true, true, true, true, true, true, true, true, true, true, true, true, true, true, false, false, false, false, false, false, false, false, false] rfl rfl (any_of HT_.out (by kernel_rfl)) (fun _ _ _ h => h) (Or.inl ⟨by rfl, ?_⟩) ?_ ?_
         rotate_left
         · intro w'
           go_simp
           with_reducible rfl
         rotate_left
         · simp only [Act.put, zA, zZ, zS, i64_w, i32_w]
           rfl
         refine pure_ (i := 17) (N := some 89) (v := ?_) (a' := ?_) #[true, true, true, true, true, true, true, true, true, true, true, true, true, true, true, true, true, true, false, false, false, false, false, false, false, false] rfl rfl (any_of HT_.out (by kernel_rfl)) (fun _ _ _ h => h) (Or.inl ⟨by rfl, ?_⟩) ?_ ?_
         rotate_left
         · intro w'
           go_simp
           with_reducible rfl
         rotate_left
         · simp only [Act.put, zA, zZ, zS, i64_w, i32_w]
           rfl
         refine pure_ (i := 18) (N := some 90) (v := ?_) (a' := ?_) #[true, true, true, true, true, true, true, true, true, true, true, true, true, true, true, true, true, true, true, false, false, false, false, false, false, false] rfl rfl (any_of HT_.out (by kernel_rfl)) (fun _ _ _ h => h) (Or.inl ⟨by rfl, ?_⟩) ?_ ?_
         rotate_left
         · intro w'
           go_simp
           with_reducible rfl
         rotate_left
         · simp only [Act.put, zA, zZ, zS, i64_w, i32_w]
           rfl
         refine pure_ (i := 19) (N := some 91) (v := undef) (a' := ?_) #[true, true, true, true, true, true, true, true, true, true, true, true, true, true, true, true, true, true, true, true, false, false, false, false, false, false] rfl rfl (any_of HT_.out (by kernel_rfl)) (fun _ _ _ h => h) (Or.inr ⟨by rfl, rfl⟩) ?_ ?_
         rotate_left
         · simp only [Act.put, zA, zZ, zS, i64_w, i32_w]
           rfl
         refine pure_ (i := 20) (N := some 92) (v := undef) (a' := ?_) #[true, true, true, true, true, true, true, true, true, true, true, true, true, true, true, true, true, true, true, true, true, false, false, false, false, false] rfl rfl (any_of HT_.out (by kernel_rfl)) (fun _ _ _ h => h) (Or.inr ⟨by rfl, rfl⟩) ?_ ?_
         rotate_left
         · simp only [Act.put, zA, zZ, zS, i64_w, i32_w]
           rfl
         refine pure_ (i := 21) (N := some 93) (v := undef) (a' := ?_) #[true, true, true, true, true, true, true, true, true, true, true, true, true, true, true, true, true, true, true, true, true, true, false, false, false, false] rfl rfl (any_of HT_.out (by kernel_rfl)) (fun _ _ _ h => h) (Or.inr ⟨by rfl, rfl⟩) ?_ ?_
         rotate_left
         · simp only [Act.put, zA, zZ, zS, i64_w, i32_w]
           rfl
         refine pure_ (i := 22) (N := some 94) (v := undef) (a' := ?_) #[true, true, true, true, true, true, true, true, true, true, true, true, true, true, true, true, true, true, true, true, true, true, true, false, false, false] rfl rfl (any_of HT_.out (by kernel_rfl)) (fun _ _ _ h => h) (Or.inr ⟨by rfl, rfl⟩) ?_ ?_
         rotate_left
         · simp only [Act.put, zA, zZ, zS, i64_w, i32_w]
           rfl
         refine pure_ (i := 23) (N := some 95) (v := undef) (a' := ?_) #[true, true, true, true, true, true, true, true, true, true, true, true, true, true, true, true, true, true, true, true, true, true, true, true, false, false] rfl rfl (any_of HT_.out (by kernel_rfl)) (fun _ _ _ h => h) (Or.inr ⟨by rfl, rfl⟩) ?_ ?_
         rotate_left
         · simp only [Act.put, zA, zZ, zS, i64_w, i32_w]
           rfl
         refine pure_ (i := 24) (N := some 96) (v := undef) (a' := ?_) #[true, true, true, true, true, true, true, true, true, true, true, true, true, true, true, true, true, true, true, true, true, true, true, true, true, false] rfl rfl (any_of HT_.out (by kernel_rfl)) (fun _ _ _ h => h) (Or.inr ⟨by rfl, rfl⟩) ?_ ?_
         rotate_left
         · simp only [Act.put, zA, zZ, zS, i64_w, i32_w]
           rfl
         refine pure_ (i := 25) (N := some 97) (v := ?_) (a' := ?_) #[true, true, true, true, true, true, true, true, true, true, true, true, true, true, true, true, true, true, true, true, true, true, true, true, true, true] rfl rfl (any_of HT_.out (by kernel_rfl)) (fun _ _ _ h => h) (Or.inl ⟨by rfl, ?_⟩) ?_ ?_
         rotate_left
         · intro w'
           go_simp
           with_reducible rfl
         rotate_left
         · simp only [Act.put, zA, zZ, zS, i64_w, i32_w]
           rfl
         refine done_ (done_of HT_.out (by kernel_rfl)) ?_
         try go_wp2
         go_ret
         exact ⟨by first | rfl | (simp [errW_none, errW_some] <;> rfl) | (simp only [← hji37]; first | rfl | (simp [errW_none, errW_some] <;> rfl)) | (simp [*, errW_none, errW_some] <;> rfl), by repeat (first | (with_reducible first | exact HB.out | apply bA | apply bN | apply bD | refine bS ?_ GE348.out | refine bS ?_ GE359.out) | exact HB.out)⟩
       rw [if_pos c40] at H
       have c40b0 : (Op.bytesLess (((rd_T31 l0_2 (ji37)).f0).toList) ((rd_T31 l0_2 x7_2).f0).toList) = true := c40
       clear c40
       replace H := Option.bind_eq_some_iff.mp H
       obtain ⟨t362, A410, H⟩ := H
       replace H : (if t362 = true then (majordomoref06_Check.l0 k3 t354 (wrap64 (x7_2 + 1)) a0_0 a0_1 l0_2) else (some 62)) = some r := H
       have A41 := As.mk A410
       clear A410
       by_cases c42 : t362 = true
       rotate_left
       · replace c42 := Bool.eq_false_iff.mpr c42
         subst c42
         have H1 : (some 62) = some r := by rw [if_neg (show ¬ (false = true) by decide)] at H; exact H
         clear H
         have H := H1
         clear H1
         obtain rfl := Option.some.inj H
         obtain ⟨Ao46, co46, eo46⟩ := Kd.R_slice HO_5.out
         subst eo46
         try go_wp2
         have n0_ := As.mk (Kd.R_drew HO_5.out)
         have n1_ := As.mk (kD BK348.out)
         have n2_ := As.mk (kD BK359.out)
         have n3_ := As.mk (bD HB.out)
         clear HO_5
         clear BK348
         clear BK359
         clear HB
         have HO_5 := n0_
         have BK348 := n1_
         have BK359 := n2_
         have HB := n3_
         clear n0_ n1_ n2_ n3_
         have p361 : 0 ≤ ((ji37) : Int) := of_decide_eq_true (by first | (with_reducible assumption) | assumption)
         have q361 : (ji37) < (l0_2.length : Int) := of_decide_eq_true (by first | (with_reducible assumption) | assumption)
         obtain ⟨ad361, e361, hx361_0, hx361_1⟩ := at_T31 HR0_2.out (ji37) p361 q361
         have hw361_1 := hx361_1
         have hw361_0 := hx361_0
         obtain rfl : ad358 = ad361 := (by injection e361)
         replace hx361_0 := (HB.out.cell (World.block_lt_of_cell? w _ hx361_0)).trans hx361_0
         replace hx361_1 := (HB.out.cell (World.block_lt_of_cell? w _ hx361_1)).trans hx361_1
         replace p361 := eq_true p361
         replace q361 := eq_true q361
         refine start_ (n := 26) (S := fun w' => w'.cell? ⟨gb359, 0, none⟩ = some (.string ((rd_T31 l0_2 x7_2).f0)) ∧ w'.cell? ⟨gb359, 1, none⟩ = some (.string ((rd_T31 l0_2 x7_2).f1)) ∧ w'.cell? ⟨gb348, 0, none⟩ = some (.string a0_0) ∧ w'.cell? ⟨gb348, 1, none⟩ = some (.string a0_1) ∧ w'.cell? ⟨gb348, 2, none⟩ = some (.slice (some ad358) l0_2.length c0_2) ∧ w'.cell? (ad358.add (((ji37)).toNat * 2)) = some (.string ((rd_T31 l0_2 (ji37)).f0)) ∧ w'.cell? ⟨(ad358.add (((ji37)).toNat * 2)).block, (ad358.add (((ji37)).toNat * 2)).off + 1, none⟩ = some (.string ((rd_T31 l0_2 (ji37)).f1))) (ds := []) #[false, false, false, false, false, false, false, false, false, false, false, false, false, false, false, false, false, false, false, false, false, false, false, false, false, false] (by kernel_rfl) rfl rfl ⟨(kC BK359.out 0).trans rfl, (kC BK359.out 1).trans rfl, (kC BK348.out 0).trans rfl, (kC BK348.out 1).trans rfl, (kC BK348.out 2).trans rfl, ((HB.out.cell (World.block_lt_of_cell? w _ hw361_0)).trans hw361_0), ((HB.out.cell (World.block_lt_of_cell? w _ hw361_1)).trans hw361_1)⟩ (fun hHeld => ?_); refine with_tabW majordomoref06_Check.tab20 majordomoref06_Check.bits20 (fun HT_ HW_ => ?_)
         generalize wr.drew = w47 at HO_5 BK348 BK359 HB hx361_0 hx361_1 hHeld ⊢
         refine pure_ (i := 0) (N := some 72) (v := ?_) (a' := ?_) #[true, false, false, false, false, false, false, false, false, false, false, false, false, false, false, false, false, false, false, false, false, false, false, false, false, false] rfl rfl (any_of HT_.out (by kernel_rfl)) (fun _ _ _ h => h) (Or.inl ⟨by rfl, ?_⟩) ?_ ?_
         rotate_left
         · intro w'
           go_simp
           with_reducible rfl
         rotate_left
         · simp only [Act.put, zA, zZ, zS, i64_w, i32_w]
           rfl
         refine pure_ (i := 1) (N := some 73) (v := ?_) (a' := ?_) #[true, true, false, false, false, false, false, false, false, false, false, false, false, false, false, false, false, false, false, false, false, false, false, false, false, false] rfl rfl (any_of HT_.out (by kernel_rfl)) (fun _ _ _ h => h) (Or.inl ⟨by rfl, ?_⟩) ?_ ?_
         rotate_left
         · intro w'
           go_simp
           with_reducible rfl
         rotate_left
         · simp only [Act.put, zA, zZ, zS, i64_w, i32_w]
           rfl
         refine pure_ (i := 2) (N := some 74) (v := ?_) (a' := ?_) #[true, true, true, false, false, false, false, false, false, false, false, false, false, false, false, false, false, false, false, false, false, false, false, false, false, false] rfl rfl (any_of HT_.out (by kernel_rfl)) (fun _ _ _ h => h) (Or.inl ⟨by rfl, ?_⟩) ?_ ?_
         rotate_left
         · intro w'
           go_simp
           with_reducible rfl
         rotate_left
         · simp only [Act.put, zA, zZ, zS, i64_w, i32_w]
           rfl
         refine pure_ (i := 3) (N := some 75) (v := ?_) (a' := ?_) #[true, true, true, true, false, false, false, false, false, false, false, false, false, false, false, false, false, false, false, false, false, false, false, false, false, false] rfl rfl (any_of HT_.out (by kernel_rfl)) (fun _ _ _ h => h) (Or.inl ⟨by rfl, ?_⟩) ?_ ?_
         rotate_left
         · intro w'
           go_simp
           with_reducible rfl
         rotate_left
         · simp only [Act.put, zA, zZ, zS, i64_w, i32_w]
           rfl
         refine pure_ (i := 4) (N := some 76) (v := ?_) (a' := ?_) #[true, true, true, true, true, false, false, false, false, false, false, false, false, false, false, false, false, false, false, false, false, false, false, false, false, false] rfl rfl (any_of HT_.out (by kernel_rfl)) (fun _ _ _ h => h) (Or.inl ⟨by rfl, ?_⟩) ?_ ?_
         rotate_left
         · intro w'
           go_simp
           with_reducible rfl
         rotate_left
         · simp only [Act.put, zA, zZ, zS, i64_w, i32_w]
           rfl
         refine pure_ (i := 5) (N := some 77) (v := ?_) (a' := ?_) #[true, true, true, true, true, true, false, false, false, false, false, false, false, false, false, false, false, false, false, false, false, false, false, false, false, false] rfl rfl (any_of HT_.out (by kernel_rfl)) (fun _ _ _ h => h) (Or.inl ⟨by rfl, ?_⟩) ?_ ?_
         rotate_left
         · intro w'
           go_simp
           with_reducible rfl
         rotate_left
         · simp only [Act.put, zA, zZ, zS, i64_w, i32_w]
           rfl
         refine pure_ (i := 6) (N := some 78) (v := ?_) (a' := ?_) #[true, true, true, true, true, true, true, false, false, false, false, false, false, false, false, false, false, false, false, false, false, false, false, false, false, false] rfl rfl (any_of HT_.out (by kernel_rfl)) (fun _ _ _ h => h) (Or.inl ⟨by rfl, ?_⟩) ?_ ?_
         rotate_left
         · intro w'
           go_simp
           with_reducible rfl
         rotate_left
         · simp only [Act.put, zA, zZ, zS, i64_w, i32_w]
           rfl
         refine pure_ (i := 8) (N := some 80) (v := ?_) (a' := ?_) #[true, true, true, true, true, true, true, false, true, false, false, false, false, false, false, false, false, false, false, false, false, false, false, false, false, false] rfl rfl (any_of HT_.out (by kernel_rfl)) (fun _ _ _ h => h) (Or.inl ⟨by rfl, ?_⟩) ?_ ?_
         rotate_left
         · intro w'
           go_simp
           with_reducible rfl
         rotate_left
         · simp only [Act.put, zA, zZ, zS, i64_w, i32_w]
           rfl
         refine pure_ (i := 10) (N := some 82) (v := ?_) (a' := ?_) #[true, true, true, true, true, true, true, false, true, false, true, false, false, false, false, false, false, false, false, false, false, false, false, false, false, false] rfl rfl (any_of HT_.out (by kernel_rfl)) (fun _ _ _ h => h) (Or.inl ⟨by rfl, ?_⟩) ?_ ?_
         rotate_left
         · intro w'
           go_simp
           with_reducible rfl
         rotate_left
         · simp only [Act.put, zA, zZ, zS, i64_w, i32_w]
           rfl
         refine pure_ (i := 11) (N := some 83) (v := ?_) (a' := ?_) #[true, true, true, true, true, true, true, false, true, false, true, true, false, false, false, false, false, false, false, false, false, false, false, false, false, false] rfl rfl (any_of HT_.out (by kernel_rfl)) (fun _ _ _ h => h) (Or.inl ⟨by rfl, ?_⟩) ?_ ?_
         rotate_left
         · intro w'
           go_simp
           with_reducible rfl
         rotate_left
         · simp only [Act.put, zA, zZ, zS, i64_w, i32_w]
           rfl
         refine take_ (i := 7) (N := some 79) (v := ?_) (a' := ?_) #[true, true, true, true, true, true, true, true, true, false, true, true, false, false, false, false, false, false, false, false, false, false, false, false, false, false] rfl rfl (take_ofW HT_.out HW_.out (by kernel_rfl)) (fun _ _ _ h => h) (Or.inl ⟨by rfl, ?_⟩) hHeld ?_ ?_
         rotate_left
         · rintro w' ⟨s0, s1, s2, s3, s4, s5, s6⟩
           go_simp
           with_reducible rfl
         rotate_left
         · simp only [Act.put, zA, zZ, zS, i64_w, i32_w]
           rfl
         refine take_ (i := 9) (N := some 81) (v := ?_) (a' := ?_) #[true, true, true, true, true, true, true, true, true, true, true, true, false, false, false, false, false, false, false, false, false, false, false, false, false, false] rfl rfl (take_ofW HT_.out HW_.out (by kernel_rfl)) (fun _ _ _ h => h) (Or.inl ⟨by rfl, ?_⟩) hHeld ?_ ?_
         rotate_left
         · rintro w' ⟨s0, s1, s2, s3, s4, s5, s6⟩
           go_simp
           with_reducible rfl
         rotate_left
         · simp only [Act.put, zA, zZ, zS, i64_w, i32_w]
           rfl
         refine pure_ (i := 12) (N := some 84) (v := ?_) (a' := ?_) #[true, true, true, true, true, true, true, true, true, true, true, true, true, false, false, false, false, false, false, false, false, false, false, false, false, false] rfl rfl (any_of HT_.out (by kernel_rfl)) (fun _ _ _ h => h) (Or.inl ⟨by rfl, ?_⟩) ?_ ?_
         rotate_left
         · intro w'
           go_simp
           with_reducible rfl
         rotate_left
         · simp only [Act.put, zA, zZ, zS, i64_w, i32_w]
           rfl
         refine pure_ (i := 13) (N := some 85) (v := ?_) (a' := ?_) #[true, true, true, true, true, true, true, true, true, true, true, true, true, true, false, false, false, false, false, false, false, false, false, false, false, false] rfl rfl (any_of HT_.out (by kernel_rfl)) (fun _ _ _ h => h) (Or.inl ⟨by rfl, ?_⟩) ?_ ?_
         rotate_left
         · intro w'
           go_simp
           with_reducible rfl
         rotate_left
         · simp only [Act.put, zA, zZ, zS, i64_w, i32_w]
           rfl
         refine take_ (i := 14) (N := some 86) (v := ?_) (a' := ?_) #[true, true, true, true, true, true, true, true, true, true, true, true, true, true, true, false, false, false, false, false, false, false, false, false, false, false] rfl rfl (take_ofW HT_.out HW_.out (by kernel_rfl)) (fun _ _ _ h => h) (Or.inl ⟨by rfl, ?_⟩) hHeld ?_ ?_
         rotate_left
         · rintro w' ⟨s0, s1, s2, s3, s4, s5, s6⟩
           go_simp
           with_reducible rfl
         rotate_left
         · simp only [Act.put, zA, zZ, zS, i64_w, i32_w]
           rfl
         refine pure_ (i := 15) (N := some 87) (v := ?_) (a' := ?_) #[true, true, true, true, true, true, true, true, true, true, true, true, true, true, true, true, false, false, false, false, false, false, false, false, false, false] rfl rfl (any_of HT_.out (by kernel_rfl)) (fun _ _ _ h => h) (Or.inl ⟨by rfl, ?_⟩) ?_ ?_
         rotate_left
         · intro w'
           go_simp
           with_reducible rfl
         rotate_left
         · simp only [Act.put, zA, zZ, zS, i64_w, i32_w]
           rfl
         refine pure_ (i := 16) (N := some 88) (v := ?_) (a' := ?_) #[true, true, true, true, true, true, true, true, true, true, true, true, true, true, true, true, true, false, false, false, false, false, false, false, false, false] rfl rfl (any_of HT_.out (by kernel_rfl)) (fun _ _ _ h => h) (Or.inl ⟨by rfl, ?_⟩) ?_ ?_
         rotate_left
         · intro w'
           go_simp
           with_reducible rfl
         rotate_left
         · simp only [Act.put, zA, zZ, zS, i64_w, i32_w]
           rfl
         refine pure_ (i := 17) (N := some 89) (v := ?_) (a' := ?_) #[true, true, true, true, true, true, true, true, true, true, true, true, true, true, true, true, true, true, false, false, false, false, false, false, false, false] rfl rfl (any_of HT_.out (by kernel_rfl)) (fun _ _ _ h => h) (Or.inl ⟨by rfl, ?_⟩) ?_ ?_
         rotate_left
         · intro w'
           go_simp
           with_reducible rfl
         rotate_left
         · simp only [Act.put, zA, zZ, zS, i64_w, i32_w]
           rfl
         refine pure_ (i := 18) (N := some 90) (v := ?_) (a' := ?_) #[true, true, true, true, true, true, true, true, true, true, true, true, true, true, true, true, true, true, true, false, false, false, false, false, false, false] rfl rfl (any_of HT_.out (by kernel_rfl)) (fun _ _ _ h => h) (Or.inl ⟨by rfl, ?_⟩) ?_ ?_
         rotate_left
         · intro w'
           go_simp
           with_reducible rfl
         rotate_left
         · simp only [Act.put, zA, zZ, zS, i64_w, i32_w]
           rfl
         refine pure_ (i := 19) (N := some 91) (v := ?_) (a' := ?_) #[true, true, true, true, true, true, true, true, true, true, true, true, true, true, true, true, true, true, true, true, false, false, false, false, false, false] rfl rfl (any_of HT_.out (by kernel_rfl)) (fun _ _ _ h => h) (Or.inl ⟨by rfl, ?_⟩) ?_ ?_
         rotate_left
         · intro w'
           go_simp
           with_reducible rfl
         rotate_left
         · simp only [Act.put, zA, zZ, zS, i64_w, i32_w]
           rfl
         refine pure_ (i := 21) (N := some 93) (v := ?_) (a' := ?_) #[true, true, true, true, true, true, true, true, true, true, true, true, true, true, true, true, true, true, true, true, false, true, false, false, false, false] rfl rfl (any_of HT_.out (by kernel_rfl)) (fun _ _ _ h => h) (Or.inl ⟨by rfl, ?_⟩) ?_ ?_
         rotate_left
         · intro w'
           go_simp
           with_reducible rfl
         rotate_left
         · simp only [Act.put, zA, zZ, zS, i64_w, i32_w]
           rfl
         refine take_ (i := 20) (N := some 92) (v := ?_) (a' := ?_) #[true, true, true, true, true, true, true, true, true, true, true, true, true, true, true, true, true, true, true, true, true, true, false, false, false, false] rfl rfl (take_ofW HT_.out HW_.out (by kernel_rfl)) (fun _ _ _ h => h) (Or.inl ⟨by rfl, ?_⟩) hHeld ?_ ?_
         rotate_left
         · rintro w' ⟨s0, s1, s2, s3, s4, s5, s6⟩
           go_simp
           with_reducible rfl
         rotate_left
         · simp only [Act.put, zA, zZ, zS, i64_w, i32_w]
           rfl
         refine take_ (i := 22) (N := some 94) (v := ?_) (a' := ?_) #[true, true, true, true, true, true, true, true, true, true, true, true, true, true, true, true, true, true, true, true, true, true, true, false, false, false] rfl rfl (take_ofW HT_.out HW_.out (by kernel_rfl)) (fun _ _ _ h => h) (Or.inl ⟨by rfl, ?_⟩) hHeld ?_ ?_
         rotate_left
         · rintro w' ⟨s0, s1, s2, s3, s4, s5, s6⟩
           go_simp
           with_reducible rfl
         rotate_left
         · simp only [Act.put, zA, zZ, zS, i64_w, i32_w]
           rfl
         refine one_ (i := 23) (N := some 95) #[true, true, true, true, true, true, true, true, true, true, true, true, true, true, true, true, true, true, true, true, true, true, true, true, false, false] rfl rfl (one_of HT_.out (by kernel_rfl)) (by decide) (fun K hK => ?_)
         refine goes_ Tryz.func36 (by kernel_rfl) rfl #[.string ((rd_T31 l0_2 x7_2).f0), .string ((rd_T31 l0_2 x7_2).f1)] (by rfl) rfl rfl (by (try simp only [List.map_toArray, List.map_cons, List.map_nil]); first | done | rfl | (simp only [List.length_drop, List.length_take]; rfl)) ?_
         with_reducible refine (majordomoref06_value.calls k3 ((rd_T31 l0_2 x7_2).f0) ((rd_T31 l0_2 x7_2).f1) false _ A41.out).mono ?_
         rintro e w48 ⟨rfl, hb⟩
         refine ⟨_, rfl, ?_⟩
         have n0_ := As.mk (Kd.R_below (by (with_reducible repeat (first | apply Kd.R_alloc | apply Kd.R_drewN | apply Kd.R_drew)); exact HO_5.out) hb)
         have n1_ := As.mk (kB (g := gb348) (o := .cells #[.string a0_0, .string a0_1, .slice (some ad358) l0_2.length c0_2] 24 (0, 0)) (by (with_reducible repeat (first | refine kN ?_ _ | refine kD ?_ | refine kA ?_ _)); exact BK348.out) hb)
         have n2_ := As.mk (kB (g := gb359) (o := .cells #[.string ((rd_T31 l0_2 x7_2).f0), .string ((rd_T31 l0_2 x7_2).f1)] 31 (0, 0)) (by (with_reducible repeat (first | refine kN ?_ _ | refine kD ?_ | refine kA ?_ _)); exact BK359.out) hb)
         have n3_ := As.mk (bT (by repeat (first | (with_reducible first | exact HB.out | apply bA | apply bN | apply bD | refine bS ?_ GE348.out | refine bS ?_ GE359.out) | exact HB.out)) hb)
         clear HO_5
         clear BK348
         clear BK359
         clear HB
         have HO_5 := n0_
         have BK348 := n1_
         have BK359 := n2_
         have HB := n3_
         clear n0_ n1_ n2_ n3_
         (try clear hb)
         (try clear hb2)
         (try clear hk)
         (try clear hi)
         refine hK.out _ _ ⟨(kC BK359.out 0).trans rfl, (kC BK359.out 1).trans rfl, (kC BK348.out 0).trans rfl, (kC BK348.out 1).trans rfl, (kC BK348.out 2).trans rfl, ((HB.out.cell (World.block_lt_of_cell? w _ hw361_0)).trans hw361_0), ((HB.out.cell (World.block_lt_of_cell? w _ hw361_1)).trans hw361_1)⟩ (fun hHeld => ?_)
         clear hK K
         refine norm_ (a' := ?_) ?_ ?_
         rotate_left
         · show Act.put _ (some 95) _ = _
           simp only [Act.put, zA, zZ, zS, i64_w, i32_w]
           rfl
         refine pure_ (i := 24) (N := some 96) (v := ?_) (a' := ?_) #[true, true, true, true, true, true, true, true, true, true, true, true, true, true, true, true, true, true, true, true, true, true, true, true, true, false] rfl rfl (any_of HT_.out (by kernel_rfl)) (fun _ _ _ h => h) (Or.inl ⟨by rfl, ?_⟩) ?_ ?_
         rotate_left
         · intro w'
           go_simp
           with_reducible rfl
         rotate_left
         · simp only [Act.put, zA, zZ, zS, i64_w, i32_w]
           rfl
         refine pure_ (i := 25) (N := some 97) (v := ?_) (a' := ?_) #[true, true, true, true, true, true, true, true, true, true, true, true, true, true, true, true, true, true, true, true, true, true, true, true, true, true] rfl rfl (any_of HT_.out (by kernel_rfl)) (fun _ _ _ h => h) (Or.inl ⟨by rfl, ?_⟩) ?_ ?_
         rotate_left
         · intro w'
           go_simp
           with_reducible rfl
         rotate_left
         · simp only [Act.put, zA, zZ, zS, i64_w, i32_w]
           rfl
         refine done_ (done_of HT_.out (by kernel_rfl)) ?_
         try go_wp2
         go_ret
         exact ⟨by first | rfl | (simp [errW_none, errW_some] <;> rfl) | (simp only [← hji37]; first | rfl | (simp [errW_none, errW_some] <;> rfl)) | (simp [*, errW_none, errW_some] <;> rfl), by repeat (first | (with_reducible first | exact HB.out | apply bA | apply bN | apply bD | refine bS ?_ GE348.out | refine bS ?_ GE359.out) | exact HB.out)⟩
       subst c42
       have H1 : (majordomoref06_Check.l0 k3 t354 (wrap64 (x7_2 + 1)) a0_0 a0_1 l0_2) = some r := by rw [if_pos rfl] at H; exact H
       clear H
       have H := H1
       clear H1
       have H' := As.mk H
       clear H
       obtain ⟨Ao43, co43, eo43⟩ := Kd.R_slice HO_5.out
       subst eo43
       try go_wp2
       have n0_ := As.mk (Kd.R_drew HO_5.out)
       have n1_ := As.mk (kD BK348.out)
       have n2_ := As.mk (kD BK359.out)
       have n3_ := As.mk (bD HB.out)
       clear HO_5
       clear BK348
       clear BK359
       clear HB
       have HO_5 := n0_
       have BK348 := n1_
       have BK359 := n2_
       have HB := n3_
       clear n0_ n1_ n2_ n3_
       have p361 : 0 ≤ ((ji37) : Int) := of_decide_eq_true (by first | (with_reducible assumption) | assumption)
       have q361 : (ji37) < (l0_2.length : Int) := of_decide_eq_true (by first | (with_reducible assumption) | assumption)
       obtain ⟨ad361, e361, hx361_0, hx361_1⟩ := at_T31 HR0_2.out (ji37) p361 q361
       have hw361_1 := hx361_1
       have hw361_0 := hx361_0
       obtain rfl : ad358 = ad361 := (by injection e361)
       replace hx361_0 := (HB.out.cell (World.block_lt_of_cell? w _ hx361_0)).trans hx361_0
       replace hx361_1 := (HB.out.cell (World.block_lt_of_cell? w _ hx361_1)).trans hx361_1
       replace p361 := eq_true p361
       replace q361 := eq_true q361
       refine start_ (n := 26) (S := fun w' => w'.cell? ⟨gb359, 0, none⟩ = some (.string ((rd_T31 l0_2 x7_2).f0)) ∧ w'.cell? ⟨gb359, 1, none⟩ = some (.string ((rd_T31 l0_2 x7_2).f1)) ∧ w'.cell? ⟨gb348, 0, none⟩ = some (.string a0_0) ∧ w'.cell? ⟨gb348, 1, none⟩ = some (.string a0_1) ∧ w'.cell? ⟨gb348, 2, none⟩ = some (.slice (some ad358) l0_2.length c0_2) ∧ w'.cell? (ad358.add (((ji37)).toNat * 2)) = some (.string ((rd_T31 l0_2 (ji37)).f0)) ∧ w'.cell? ⟨(ad358.add (((ji37)).toNat * 2)).block, (ad358.add (((ji37)).toNat * 2)).off + 1, none⟩ = some (.string ((rd_T31 l0_2 (ji37)).f1))) (ds := []) #[false, false, false, false, false, false, false, false, false, false, false, false, false, false, false, false, false, false, false, false, false, false, false, false, false, false] (by kernel_rfl) rfl rfl ⟨(kC BK359.out 0).trans rfl, (kC BK359.out 1).trans rfl, (kC BK348.out 0).trans rfl, (kC BK348.out 1).trans rfl, (kC BK348.out 2).trans rfl, ((HB.out.cell (World.block_lt_of_cell? w _ hw361_0)).trans hw361_0), ((HB.out.cell (World.block_lt_of_cell? w _ hw361_1)).trans hw361_1)⟩ (fun hHeld => ?_); refine with_tabW majordomoref06_Check.tab20 majordomoref06_Check.bits20 (fun HT_ HW_ => ?_)
       generalize wr.drew = w44 at HO_5 BK348 BK359 HB hx361_0 hx361_1 hHeld ⊢
       refine pure_ (i := 0) (N := some 72) (v := ?_) (a' := ?_) #[true, false, false, false, false, false, false, false, false, false, false, false, false, false, false, false, false, false, false, false, false, false, false, false, false, false] rfl rfl (any_of HT_.out (by kernel_rfl)) (fun _ _ _ h => h) (Or.inl ⟨by rfl, ?_⟩) ?_ ?_
       rotate_left
       · intro w'
         go_simp
         with_reducible rfl
       rotate_left
       · simp only [Act.put, zA, zZ, zS, i64_w, i32_w]
         rfl
       refine pure_ (i := 1) (N := some 73) (v := ?_) (a' := ?_) #[true, true, false, false, false, false, false, false, false, false, false, false, false, false, false, false, false, false, false, false, false, false, false, false, false, false] rfl rfl (any_of HT_.out (by kernel_rfl)) (fun _ _ _ h => h) (Or.inl ⟨by rfl, ?_⟩) ?_ ?_
       rotate_left
       · intro w'
         go_simp
         with_reducible rfl
       rotate_left
       · simp only [Act.put, zA, zZ, zS, i64_w, i32_w]
         rfl
       refine pure_ (i := 2) (N := some 74) (v := ?_) (a' := ?_) #[true, true, true, false, false, false, false, false, false, false, false, false, false, false, false, false, false, false, false, false, false, false, false, false, false, false] rfl rfl (any_of HT_.out (by kernel_rfl)) (fun _ _ _ h => h) (Or.inl ⟨by rfl, ?_⟩) ?_ ?_
       rotate_left
       · intro w'
         go_simp
         with_reducible rfl
       rotate_left
       · simp only [Act.put, zA, zZ, zS, i64_w, i32_w]
         rfl
       refine pure_ (i := 3) (N := some 75) (v := ?_) (a' := ?_) #[true, true, true, true, false, false, false, false, false, false, false, false, false, false, false, false, false, false, false, false, false, false, false, false, false, false] rfl rfl (any_of HT_.out (by kernel_rfl)) (fun _ _ _ h => h) (Or.inl ⟨by rfl, ?_⟩) ?_ ?_
       rotate_left
       · intro w'
         go_simp
         with_reducible rfl
       rotate_left
       · simp only [Act.put, zA, zZ, zS, i64_w, i32_w]
         rfl
       refine pure_ (i := 4) (N := some 76) (v := ?_) (a' := ?_) #[true, true, true, true, true, false, false, false, false, false, false, false, false, false, false, false, false, false, false, false, false, false, false, false, false, false] rfl rfl (any_of HT_.out (by kernel_rfl)) (fun _ _ _ h => h) (Or.inl ⟨by rfl, ?_⟩) ?_ ?_
       rotate_left
       · intro w'
         go_simp
         with_reducible rfl
       rotate_left
       · simp only [Act.put, zA, zZ, zS, i64_w, i32_w]
         rfl
       refine pure_ (i := 5) (N := some 77) (v := ?_) (a' := ?_) #[true, true, true, true, true, true, false, false, false, false, false, false, false, false, false, false, false, false, false, false, false, false, false, false, false, false] rfl rfl (any_of HT_.out (by kernel_rfl)) (fun _ _ _ h => h) (Or.inl ⟨by rfl, ?_⟩) ?_ ?_
       rotate_left
       · intro w'
         go_simp
         with_reducible rfl
       rotate_left
       · simp only [Act.put, zA, zZ, zS, i64_w, i32_w]
         rfl
       refine pure_ (i := 6) (N := some 78) (v := ?_) (a' := ?_) #[true, true, true, true, true, true, true, false, false, false, false, false, false, false, false, false, false, false, false, false, false, false, false, false, false, false] rfl rfl (any_of HT_.out (by kernel_rfl)) (fun _ _ _ h => h) (Or.inl ⟨by rfl, ?_⟩) ?_ ?_
       rotate_left
       · intro w'
         go_simp
         with_reducible rfl
       rotate_left
       · simp only [Act.put, zA, zZ, zS, i64_w, i32_w]
         rfl
       refine pure_ (i := 8) (N := some 80) (v := ?_) (a' := ?_) #[true, true, true, true, true, true, true, false, true, false, false, false, false, false, false, false, false, false, false, false, false, false, false, false, false, false] rfl rfl (any_of HT_.out (by kernel_rfl)) (fun _ _ _ h => h) (Or.inl ⟨by rfl, ?_⟩) ?_ ?_
       rotate_left
       · intro w'
         go_simp
         with_reducible rfl
       rotate_left
       · simp only [Act.put, zA, zZ, zS, i64_w, i32_w]
         rfl
       refine pure_ (i := 10) (N := some 82) (v := ?_) (a' := ?_) #[true, true, true, true, true, true, true, false, true, false, true, false, false, false, false, false, false, false, false, false, false, false, false, false, false, false] rfl rfl (any_of HT_.out (by kernel_rfl)) (fun _ _ _ h => h) (Or.inl ⟨by rfl, ?_⟩) ?_ ?_
       rotate_left
       · intro w'
         go_simp
         with_reducible rfl
       rotate_left
       · simp only [Act.put, zA, zZ, zS, i64_w, i32_w]
         rfl
       refine pure_ (i := 11) (N := some 83) (v := ?_) (a' := ?_) #[true, true, true, true, true, true, true, false, true, false, true, true, false, false, false, false, false, false, false, false, false, false, false, false, false, false] rfl rfl (any_of HT_.out (by kernel_rfl)) (fun _ _ _ h => h) (Or.inl ⟨by rfl, ?_⟩) ?_ ?_
       rotate_left
       · intro w'
         go_simp
         with_reducible rfl
       rotate_left
       · simp only [Act.put, zA, zZ, zS, i64_w, i32_w]
         rfl
       refine take_ (i := 7) (N := some 79) (v := ?_) (a' := ?_) #[true, true, true, true, true, true, true, true, true, false, true, true, false, false, false, false, false, false, false, false, false, false, false, false, false, false] rfl rfl (take_ofW HT_.out HW_.out (by kernel_rfl)) (fun _ _ _ h => h) (Or.inl ⟨by rfl, ?_⟩) hHeld ?_ ?_
       rotate_left
       · rintro w' ⟨s0, s1, s2, s3, s4, s5, s6⟩
         go_simp
         with_reducible rfl
       rotate_left
       · simp only [Act.put, zA, zZ, zS, i64_w, i32_w]
         rfl
       refine take_ (i := 9) (N := some 81) (v := ?_) (a' := ?_) #[true, true, true, true, true, true, true, true, true, true, true, true, false, false, false, false, false, false, false, false, false, false, false, false, false, false] rfl rfl (take_ofW HT_.out HW_.out (by kernel_rfl)) (fun _ _ _ h => h) (Or.inl ⟨by rfl, ?_⟩) hHeld ?_ ?_
       rotate_left
       · rintro w' ⟨s0, s1, s2, s3, s4, s5, s6⟩
         go_simp
         with_reducible rfl
       rotate_left
       · simp only [Act.put, zA, zZ, zS, i64_w, i32_w]
         rfl
       refine pure_ (i := 12) (N := some 84) (v := ?_) (a' := ?_) #[true, true, true, true, true, true, true, true, true, true, true, true, true, false, false, false, false, false, false, false, false, false, false, false, false, false] rfl rfl (any_of HT_.out (by kernel_rfl)) (fun _ _ _ h => h) (Or.inl ⟨by rfl, ?_⟩) ?_ ?_
       rotate_left
       · intro w'
         go_simp
         with_reducible rfl
       rotate_left
       · simp only [Act.put, zA, zZ, zS, i64_w, i32_w]
         rfl
       refine pure_ (i := 13) (N := some 85) (v := ?_) (a' := ?_) #[true, true, true, true, true, true, true, true, true, true, true, true, true, true, false, false, false, false, false, false, false, false, false, false, false, false] rfl rfl (any_of HT_.out (by kernel_rfl)) (fun _ _ _ h => h) (Or.inl ⟨by rfl, ?_⟩) ?_ ?_
       rotate_left
       · intro w'
         go_simp
         with_reducible rfl
       rotate_left
       · simp only [Act.put, zA, zZ, zS, i64_w, i32_w]
         rfl
       refine take_ (i := 14) (N := some 86) (v := ?_) (a' := ?_) #[true, true, true, true, true, true, true, true, true, true, true, true, true, true, true, false, false, false, false, false, false, false, false, false, false, false] rfl rfl (take_ofW HT_.out HW_.out (by kernel_rfl)) (fun _ _ _ h => h) (Or.inl ⟨by rfl, ?_⟩) hHeld ?_ ?_
       rotate_left
       · rintro w' ⟨s0, s1, s2, s3, s4, s5, s6⟩
         go_simp
         with_reducible rfl
       rotate_left
       · simp only [Act.put, zA, zZ, zS, i64_w, i32_w]
         rfl
       refine pure_ (i := 15) (N := some 87) (v := ?_) (a' := ?_) #[true, true, true, true, true, true, true, true, true, true, true, true, true, true, true, true, false, false, false, false, false, false, false, false, false, false] rfl rfl (any_of HT_.out (by kernel_rfl)) (fun _ _ _ h => h) (Or.inl ⟨by rfl, ?_⟩) ?_ ?_
       rotate_left
       · intro w'
         go_simp
         with_reducible rfl
       rotate_left
       · simp only [Act.put, zA, zZ, zS, i64_w, i32_w]
         rfl
       refine pure_ (i := 16) (N := some 88) (v := ?_) (a' := ?_) #[true, true, true, true, true, true, true, true, true, true, true, true, true, true, true, true, true, false, false, false, false, false, false, false, false, false] rfl rfl (any_of HT_.out (by kernel_rfl)) (fun _ _ _ h => h) (Or.inl ⟨by rfl, ?_⟩) ?_ ?_
       rotate_left
       · intro w'
         go_simp
         with_reducible rfl
       rotate_left
       · simp only [Act.put, zA, zZ, zS, i64_w, i32_w]
         rfl
       refine pure_ (i := 17) (N := some 89) (v := ?_) (a' := ?_) #[true, true, true, true, true, true, true, true, true, true, true, true, true, true, true, true, true, true, false, false, false, false, false, false, false, false] rfl rfl (any_of HT_.out (by kernel_rfl)) (fun _ _ _ h => h) (Or.inl ⟨by rfl, ?_⟩) ?_ ?_
       rotate_left
       · intro w'
         go_simp
         with_reducible rfl
       rotate_left
       · simp only [Act.put, zA, zZ, zS, i64_w, i32_w]
         rfl
       refine pure_ (i := 18) (N := some 90) (v := ?_) (a' := ?_) #[true, true, true, true, true, true, true, true, true, true, true, true, true, true, true, true, true, true, true, false, false, false, false, false, false, false] rfl rfl (any_of HT_.out (by kernel_rfl)) (fun _ _ _ h => h) (Or.inl ⟨by rfl, ?_⟩) ?_ ?_
       rotate_left
       · intro w'
         go_simp
         with_reducible rfl
       rotate_left
       · simp only [Act.put, zA, zZ, zS, i64_w, i32_w]
         rfl
       refine pure_ (i := 19) (N := some 91) (v := ?_) (a' := ?_) #[true, true, true, true, true, true, true, true, true, true, true, true, true, true, true, true, true, true, true, true, false, false, false, false, false, false] rfl rfl (any_of HT_.out (by kernel_rfl)) (fun _ _ _ h => h) (Or.inl ⟨by rfl, ?_⟩) ?_ ?_
       rotate_left
       · intro w'
         go_simp
         with_reducible rfl
       rotate_left
       · simp only [Act.put, zA, zZ, zS, i64_w, i32_w]
         rfl
       refine pure_ (i := 21) (N := some 93) (v := ?_) (a' := ?_) #[true, true, true, true, true, true, true, true, true, true, true, true, true, true, true, true, true, true, true, true, false, true, false, false, false, false] rfl rfl (any_of HT_.out (by kernel_rfl)) (fun _ _ _ h => h) (Or.inl ⟨by rfl, ?_⟩) ?_ ?_
       rotate_left
       · intro w'
         go_simp
         with_reducible rfl
       rotate_left
       · simp only [Act.put, zA, zZ, zS, i64_w, i32_w]
         rfl
       refine take_ (i := 20) (N := some 92) (v := ?_) (a' := ?_) #[true, true, true, true, true, true, true, true, true, true, true, true, true, true, true, true, true, true, true, true, true, true, false, false, false, false] rfl rfl (take_ofW HT_.out HW_.out (by kernel_rfl)) (fun _ _ _ h => h) (Or.inl ⟨by rfl, ?_⟩) hHeld ?_ ?_
       rotate_left
       · rintro w' ⟨s0, s1, s2, s3, s4, s5, s6⟩
         go_simp
         with_reducible rfl
       rotate_left
       · simp only [Act.put, zA, zZ, zS, i64_w, i32_w]
         rfl
       refine take_ (i := 22) (N := some 94) (v := ?_) (a' := ?_) #[true, true, true, true, true, true, true, true, true, true, true, true, true, true, true, true, true, true, true, true, true, true, true, false, false, false] rfl rfl (take_ofW HT_.out HW_.out (by kernel_rfl)) (fun _ _ _ h => h) (Or.inl ⟨by rfl, ?_⟩) hHeld ?_ ?_
       rotate_left
       · rintro w' ⟨s0, s1, s2, s3, s4, s5, s6⟩
         go_simp
         with_reducible rfl
       rotate_left
       · simp only [Act.put, zA, zZ, zS, i64_w, i32_w]
         rfl
       refine one_ (i := 23) (N := some 95) #[true, true, true, true, true, true, true, true, true, true, true, true, true, true, true, true, true, true, true, true, true, true, true, true, false, false] rfl rfl (one_of HT_.out (by kernel_rfl)) (by decide) (fun K hK => ?_)
       refine goes_ Tryz.func36 (by kernel_rfl) rfl #[.string ((rd_T31 l0_2 x7_2).f0), .string ((rd_T31 l0_2 x7_2).f1)] (by rfl) rfl rfl (by (try simp only [List.map_toArray, List.map_cons, List.map_nil]); first | done | rfl | (simp only [List.length_drop, List.length_take]; rfl)) ?_
       with_reducible refine (majordomoref06_value.calls k3 ((rd_T31 l0_2 x7_2).f0) ((rd_T31 l0_2 x7_2).f1) true _ A41.out).mono ?_
       rintro e w45 ⟨rfl, hb⟩
       refine ⟨_, rfl, ?_⟩
       have n0_ := As.mk (Kd.R_below (by (with_reducible repeat (first | apply Kd.R_alloc | apply Kd.R_drewN | apply Kd.R_drew)); exact HO_5.out) hb)
       have n1_ := As.mk (kB (g := gb348) (o := .cells #[.string a0_0, .string a0_1, .slice (some ad358) l0_2.length c0_2] 24 (0, 0)) (by (with_reducible repeat (first | refine kN ?_ _ | refine kD ?_ | refine kA ?_ _)); exact BK348.out) hb)
       have n2_ := As.mk (kB (g := gb359) (o := .cells #[.string ((rd_T31 l0_2 x7_2).f0), .string ((rd_T31 l0_2 x7_2).f1)] 31 (0, 0)) (by (with_reducible repeat (first | refine kN ?_ _ | refine kD ?_ | refine kA ?_ _)); exact BK359.out) hb)
       have n3_ := As.mk (bT (by repeat (first | (with_reducible first | exact HB.out | apply bA | apply bN | apply bD | refine bS ?_ GE348.out | refine bS ?_ GE359.out) | exact HB.out)) hb)
       clear HO_5
       clear BK348
       clear BK359
       clear HB
       have HO_5 := n0_
       have BK348 := n1_
       have BK359 := n2_
       have HB := n3_
       clear n0_ n1_ n2_ n3_
       (try clear hb)
       (try clear hb2)
       (try clear hk)
       (try clear hi)
       refine hK.out _ _ ⟨(kC BK359.out 0).trans rfl, (kC BK359.out 1).trans rfl, (kC BK348.out 0).trans rfl, (kC BK348.out 1).trans rfl, (kC BK348.out 2).trans rfl, ((HB.out.cell (World.block_lt_of_cell? w _ hw361_0)).trans hw361_0), ((HB.out.cell (World.block_lt_of_cell? w _ hw361_1)).trans hw361_1)⟩ (fun hHeld => ?_)
       clear hK K
       refine norm_ (a' := ?_) ?_ ?_
       rotate_left
       · show Act.put _ (some 95) _ = _
         simp only [Act.put, zA, zZ, zS, i64_w, i32_w]
         rfl
       refine pure_ (i := 24) (N := some 96) (v := ?_) (a' := ?_) #[true, true, true, true, true, true, true, true, true, true, true, true, true, true, true, true, true, true, true, true, true, true, true, true, true, false] rfl rfl (any_of HT_.out (by kernel_rfl)) (fun _ _ _ h => h) (Or.inl ⟨by rfl, ?_⟩) ?_ ?_
       rotate_left
       · intro w'
         go_simp
         with_reducible rfl
       rotate_left
       · simp only [Act.put, zA, zZ, zS, i64_w, i32_w]
         rfl
       refine pure_ (i := 25) (N := some 97) (v := ?_) (a' := ?_) #[true, true, true, true, true, true, true, true, true, true, true, true, true, true, true, true, true, true, true, true, true, true, true, true, true, true] rfl rfl (any_of HT_.out (by kernel_rfl)) (fun _ _ _ h => h) (Or.inl ⟨by rfl, ?_⟩) ?_ ?_
       rotate_left
       · intro w'
         go_simp
         with_reducible rfl
       rotate_left
       · simp only [Act.put, zA, zZ, zS, i64_w, i32_w]
         rfl
       refine done_ (done_of HT_.out (by kernel_rfl)) ?_
       try go_wp2
       go_roundg k3
       case measure => have := HJ8.out; have := HK2.out; have := HK3.out; omega
       case rel => exact ⟨(wrap64 (x7_2 + 1)), (by first | rfl | (simp; done) | (simp [*]; done)), H', ⟨by have := HJ8.out; have := HK2.out; have := HK3.out; omega⟩, ⟨by (with_reducible repeat (first | apply Kd.R_alloc | apply Kd.R_drewN | apply Kd.R_drew)); exact HO_5.out⟩, ⟨by (with_reducible repeat (first | refine kN ?_ _ | refine kD ?_ | refine kA ?_ _)); exact BK348.out⟩, ⟨by repeat (first | (with_reducible first | exact HB.out | apply bA | apply bN | apply bD | refine bS ?_ GE348.out | refine bS ?_ GE359.out) | exact HB.out)⟩⟩
end Go.Proofs.YtkgafkoopefghaaGreatDoor.PA
end
