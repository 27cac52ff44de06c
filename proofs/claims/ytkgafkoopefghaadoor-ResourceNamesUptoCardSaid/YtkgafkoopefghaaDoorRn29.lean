/- A part of this law; its conditions stand in the last text. -/
import Derived.Test.YtkgafkoopefghaaDoorRn28
import Derived.Test.YtkgafkoopefghaaDoorRn12
section
namespace Go.Proofs.YtkgafkoopefghaaDoor.PA
open Go.RowKit Go.Proofs.YtkgafkoopefghaaDoorW.PrintWords Go.Proofs.YtkgafkoopefghaaDoorW.PrintLast Go.Proofs.YtkgafkoopefghaaDoorW.PrintMore
open Go.Proofs.YtkgafkoopefghaaDoor.Hk
attribute [local go_sem high] Go.Proofs.YtkgafkoopefghaaDoor.Hk.binOp_leq_not
attribute [local go_sem] max2_int min2_int max_two min_two max_three min_three max_four min_four
set_option linter.unusedVariables false
set_option linter.unusedSimpArgs false
def majordomolaw06_ResourceNames.f (k : Nat) (a0_0 : ByteArray) (a0_1 : ByteArray) (l0_2 : List (S34)) (a1_0 : ByteArray) (a1_1 : ByteArray) (l1_2 : List (S34)) (a2 : ByteArray) : Option (Bool) := (majordomolaw06_shown.f).bind fun t330 => ((resource_Get.f k a0_0 a0_1 l0_2 a2).bind fun bt331 => ((majordomoref06_Get.f k a0_0 a0_1 l0_2 a2).bind fun bt333 => ((resource_Less.f a0_0 a0_1 l0_2 a1_0 a1_1 l1_2).bind fun t335 => ((resource_Less.f a1_0 a1_1 l1_2 a0_0 a0_1 l0_2).bind fun t336 => (if a0_0.toList = a1_0.toList then (if t330 = true then (if bt331.1.toList = bt333.1.toList then (if (bt331.2 == bt333.2) = true then ((resource_Name.f a0_0 a0_1 l0_2).bind fun t337 => ((majordomoref06_Name.f a0_0 a0_1 l0_2).bind fun t338 => (if t337.toList = t338.toList then ((majordomoref06_Less.f a0_0 a0_1 l0_2 a1_0 a1_1 l1_2).bind fun t339 => (if (t335 == t339) = true then (if t335 = true then (if t336 = true then (some false) else (some (true == (!(a0_1.toList == a1_1.toList))))) else (some (t336 == (!(a0_1.toList == a1_1.toList))))) else (some false))) else (some false)))) else (some false)) else (some false)) else (some false)) else (if t330 = true then (if bt331.1.toList = bt333.1.toList then (if (bt331.2 == bt333.2) = true then ((resource_Name.f a0_0 a0_1 l0_2).bind fun t340 => ((majordomoref06_Name.f a0_0 a0_1 l0_2).bind fun t341 => (if t340.toList = t341.toList then ((majordomoref06_Less.f a0_0 a0_1 l0_2 a1_0 a1_1 l1_2).bind fun t342 => (if (t335 == t342) = true then (if t335 = true then (if t336 = true then (some false) else (some (true == (!false)))) else (some (t336 == (!false)))) else (some false))) else (some false)))) else (some false)) else (some false)) else (some false)))))))
def majordomolaw06_ResourceNames.T7 : Bool × List (List Nat × List Nat) := (true, [([], []), ([0], [0]), ([1], [1]), ([1], [1]), ([2, 3, 1], [1, 2, 3]), ([1, 4], [1, 4]), ([5, 1], [5]), ([6], [6]), ([6], [6]), ([7, 8, 6], [6, 7, 8]), ([6, 9], [6, 9]), ([10, 6], [10]), ([11], [11]), ([12, 11, 11], [11, 12]), ([11], [11]), ([14, 13, 11], [11, 14]), ([13, 15, 11], [11, 13, 15]), ([11, 16], [11, 16]), ([17, 15], [17]), ([18], [18]), ([18], [18]), ([18], [18]), ([20, 21, 18, 18], [18, 20, 21]), ([19, 22, 18], [18, 19, 22]), ([18, 23], [18, 23]), ([24, 22], [24]), ([25], [25]), ([26, 25, 25], [25, 26]), ([27], [27]), ([27, 28, 25], [25, 27, 28]), ([29, 25], [25, 29]), ([25, 30], [25, 30]), ([31, 27], [31]), ([32], [32]), ([33, 32, 32], [32, 33]), ([34], [34]), ([34, 35, 32], [32, 34, 35]), ([32], [32]), ([37, 32], [32, 37]), ([36, 38, 32], [32, 36, 38]), ([32, 39], [32, 39]), ([40, 34, 0, 1, 2, 3, 4, 5, 6, 7, 8, 9, 10, 11, 12, 13, 14, 15, 16, 17, 18, 19, 20, 21, 22, 23, 24, 25, 26, 27, 28, 29, 30, 31, 32, 33, 34, 35, 36, 37, 38, 39, 40], [40])])
def majordomolaw06_ResourceNames.B7 : List Nat := [0, 1, 3, 3, 15, 31, 63, 127, 127, 511, 1023, 2047, 4095, 8191, 4095, 32767, 65535, 131071, 262143, 524287, 524287, 524287, 3670015, 8388607, 16777215, 33554431, 67108863, 134217727, 268435455, 536870911, 1073741823, 2147483647, 4294967295, 8589934591, 17179869183, 34359738367, 68719476735, 8589934591, 146028888063, 549755813887, 1099511627775, 2199023255551]
theorem majordomolaw06_ResourceNames.tab7 : rtab .any (opsOf Tryd.f6 7) = majordomolaw06_ResourceNames.T7 := by kernel_rfl
theorem majordomolaw06_ResourceNames.bits7 : waitsOk majordomolaw06_ResourceNames.T7.2 majordomolaw06_ResourceNames.B7 = true := by kernel_rfl
set_option maxHeartbeats 8000000 in
set_option maxRecDepth 100000 in
theorem majordomolaw06_ResourceNames.calls_eq (k : Nat) (a0_0 : ByteArray) (a0_1 : ByteArray) (A0_2 : Option Addr) (c0_2 : Nat) (l0_2 : List (S34)) (a1_0 : ByteArray) (a1_1 : ByteArray) (A1_2 : Option Addr) (c1_2 : Nat) (l1_2 : List (S34)) (a2 : ByteArray) (r : Bool) (w : World) (hr0_2 : Kd.C k34 w A0_2 l0_2.length l0_2) (hc0_2 : l0_2.length ≤ c0_2) (hr1_2 : Kd.C k34 w A1_2 l1_2.length l1_2) (hc1_2 : l1_2.length ≤ c1_2) (h : majordomolaw06_ResourceNames.f k a0_0 a0_1 l0_2 a1_0 a1_1 l1_2 a2 = some r) (hU : UtfOk w) (hQ : a0_0.toList = a1_0.toList) (hr : r = true) :
 Calls Tryd.prog 6 #[.agg #[.string a0_0, .string a0_1, .slice A0_2 l0_2.length c0_2], .agg #[.string a1_0, .string a1_1, .slice A1_2 l1_2.length c1_2], .string a2] w fun e w' => e = .returned (.bool r) ∧ Below w.heap.size w w' := by
 have HEQ := As.mk hQ
 clear hQ
 have HRR := As.mk hr
 clear hr
 have HU := As.mk hU
 clear hU
 have hu24 := Tryd.underlying24
 have HR0_2 := As.mk hr0_2
 have HC0_2 := As.mk hc0_2
 clear hr0_2 hc0_2
 have HR1_2 := As.mk hr1_2
 have HC1_2 := As.mk hc1_2
 clear hr1_2 hc1_2
 have HB := As.mk (Below.refl w.heap.size w)
 have H : ((majordomolaw06_shown.f).bind fun t330 => ((resource_Get.f k a0_0 a0_1 l0_2 a2).bind fun bt331 => ((majordomoref06_Get.f k a0_0 a0_1 l0_2 a2).bind fun bt333 => ((resource_Less.f a0_0 a0_1 l0_2 a1_0 a1_1 l1_2).bind fun t335 => ((resource_Less.f a1_0 a1_1 l1_2 a0_0 a0_1 l0_2).bind fun t336 => (if a0_0.toList = a1_0.toList then (if t330 = true then (if bt331.1.toList = bt333.1.toList then (if (bt331.2 == bt333.2) = true then ((resource_Name.f a0_0 a0_1 l0_2).bind fun t337 => ((majordomoref06_Name.f a0_0 a0_1 l0_2).bind fun t338 => (if t337.toList = t338.toList then ((majordomoref06_Less.f a0_0 a0_1 l0_2 a1_0 a1_1 l1_2).bind fun t339 => (if (t335 == t339) = true then (if t335 = true then (if t336 = true then (some false) else (some (true == (!(a0_1.toList == a1_1.toList))))) else (some (t336 == (!(a0_1.toList == a1_1.toList))))) else (some false))) else (some false)))) else (some false)) else (some false)) else (some false)) else (if t330 = true then (if bt331.1.toList = bt333.1.toList then (if (bt331.2 == bt333.2) = true then ((resource_Name.f a0_0 a0_1 l0_2).bind fun t340 => ((majordomoref06_Name.f a0_0 a0_1 l0_2).bind fun t341 => (if t340.toList = t341.toList then ((majordomoref06_Less.f a0_0 a0_1 l0_2 a1_0 a1_1 l1_2).bind fun t342 => (if (t335 == t342) = true then (if t335 = true then (if t336 = true then (some false) else (some (true == (!false)))) else (some (t336 == (!false)))) else (some false))) else (some false)))) else (some false)) else (some false)) else (some false)))))))) = some r := h
 clear h
 replace H := Option.bind_eq_some_iff.mp H
 obtain ⟨t330, A40, H⟩ := H
 (try dsimp only at H)
 have A4 := As.mk A40
 clear A40
 replace H := Option.bind_eq_some_iff.mp H
 obtain ⟨⟨t331, t332⟩, A50, H⟩ := H
 (try dsimp only at H)
 have A5 := As.mk A50
 clear A50
 replace H := Option.bind_eq_some_iff.mp H
 obtain ⟨⟨t333, t334⟩, A60, H⟩ := H
 (try dsimp only at H)
 have A6 := As.mk A60
 clear A60
 replace H := Option.bind_eq_some_iff.mp H
 obtain ⟨t335, A70, H⟩ := H
 (try dsimp only at H)
 have A7 := As.mk A70
 clear A70
 replace H := Option.bind_eq_some_iff.mp H
 obtain ⟨t336, A80, H⟩ := H
 (try dsimp only at H)
 have A8 := As.mk A80
 clear A80
 have c9 : a0_0.toList = a1_0.toList := HEQ.out
 rw [if_pos c9] at H
 have c9b0 : (a0_0.toList == a1_0.toList) = true := beq_iff_eq.mpr c9
 have c9b1 : (a0_0.toList != a1_0.toList) = false := bne_eq_false_iff_eq.mpr c9
 clear c9
 by_cases c10 : t330 = true
 rotate_left
 · rw [if_neg c10] at H
   exact absurd ((Option.some.inj H).trans HRR.out) (by decide)
 subst c10
 rw [if_pos rfl] at H
 by_cases c11 : t331.toList = t333.toList
 rotate_left
 · rw [if_neg c11] at H
   exact absurd ((Option.some.inj H).trans HRR.out) (by decide)
 rw [if_pos c11] at H
 have c11b0 : (t331.toList == t333.toList) = true := beq_iff_eq.mpr c11
 have c11b1 : (t331.toList != t333.toList) = false := bne_eq_false_iff_eq.mpr c11
 clear c11
 by_cases c12 : (t332 == t334) = true
 rotate_left
 · rw [if_neg c12] at H
   exact absurd ((Option.some.inj H).trans HRR.out) (by decide)
 rw [if_pos c12] at H
 have c12b0 : (t332 == t334) = true := c12
 (try (have c12b1 : decide (t332 = t334) = true := by simpa using c12))
 (try (have c12b2 : (t332 == t334) = true := by simpa using c12))
 clear c12
 replace H := Option.bind_eq_some_iff.mp H
 obtain ⟨t337, A130, H⟩ := H
 (try dsimp only at H)
 have A13 := As.mk A130
 clear A130
 replace H := Option.bind_eq_some_iff.mp H
 obtain ⟨t338, A140, H⟩ := H
 (try dsimp only at H)
 have A14 := As.mk A140
 clear A140
 by_cases c15 : t337.toList = t338.toList
 rotate_left
 · rw [if_neg c15] at H
   exact absurd ((Option.some.inj H).trans HRR.out) (by decide)
 rw [if_pos c15] at H
 have c15b0 : (t337.toList == t338.toList) = true := beq_iff_eq.mpr c15
 have c15b1 : (t337.toList != t338.toList) = false := bne_eq_false_iff_eq.mpr c15
 clear c15
 replace H := Option.bind_eq_some_iff.mp H
 obtain ⟨t339, A160, H⟩ := H
 (try dsimp only at H)
 have A16 := As.mk A160
 clear A160
 by_cases c17 : (t335 == t339) = true
 rotate_left
 · rw [if_neg c17] at H
   exact absurd ((Option.some.inj H).trans HRR.out) (by decide)
 rw [if_pos c17] at H
 have c17b0 : (t335 == t339) = true := c17
 (try (have c17b1 : decide (t335 = t339) = true := by simpa using c17))
 (try (have c17b2 : (t335 == t339) = true := by simpa using c17))
 clear c17
 by_cases c18 : t335 = true
 rotate_left
 · replace c18 := Bool.eq_false_iff.mpr c18
   subst c18
   rw [if_neg (show ¬ (false = true) by decide)] at H
   obtain rfl := Option.some.inj H
   go_enter Tryd.func6, Tryd.ntmps6
   try go_wp2_with (first | ((with_reducible refine gate_dst (N := 3) rfl ?_); refine box_event ?hg (N := 3) ?hd (cs := #[.string a0_0, .string a0_1, .slice A0_2 l0_2.length c0_2]) (t := 24) ?hr ?_; (case hd => rfl); (case hg => rfl); (case hr => first | (go_simp; done) | (go_simp; rfl)); intro gb328 hg w60 hbox hb; have n0_ := As.mk (bT (by repeat (first | (with_reducible first | exact HB.out | apply bA | apply bN | apply bD) | exact HB.out)) hb); have n1_ := As.mk (hbox); have n2_ := As.mk ((by rw [hg]; exact (bZ (by repeat (first | (with_reducible first | exact HB.out | apply bA | apply bN | apply bD) | exact HB.out))) : w.heap.size ≤ gb328)); have n3_ := As.mk ((by rw [hg]; exact (bZ (by repeat (first | (with_reducible first | exact HB.out | apply bA | apply bN | apply bD) | exact HB.out))) : w.heap.size ≤ gb328)); clear HB; have HB := n0_; have BK328 := n1_; have GW328 := n2_; have GE328 := n3_; clear n0_ n1_ n2_ n3_; clear hb hbox hg) | ((with_reducible refine gate_dst (N := 4) rfl ?_); refine box_event ?hg (N := 4) ?hd (cs := #[.string a1_0, .string a1_1, .slice A1_2 l1_2.length c1_2]) (t := 24) ?hr ?_; (case hd => rfl); (case hg => rfl); (case hr => first | (go_simp; done) | (go_simp; rfl)); intro gb329 hg w61 hbox hb; have n0_ := As.mk (kB (g := gb328) (o := .cells #[.string a0_0, .string a0_1, .slice A0_2 l0_2.length c0_2] 24 (0, 0)) (by (with_reducible repeat (first | refine kN ?_ _ | refine kD ?_ | refine kA ?_ _)); exact BK328.out) hb); have n1_ := As.mk (bT (by repeat (first | (with_reducible first | exact HB.out | apply bA | apply bN | apply bD | refine bS ?_ GE328.out) | exact HB.out)) hb); have n2_ := As.mk (hbox); have n3_ := As.mk ((by rw [hg]; exact (bZ (by repeat (first | (with_reducible first | exact HB.out | apply bA | apply bN | apply bD | refine bS ?_ GE328.out) | exact HB.out))) : w.heap.size ≤ gb329)); have n4_ := As.mk ((by rw [hg]; exact (bZ (by repeat (first | (with_reducible first | exact HB.out | apply bA | apply bN | apply bD | refine bS ?_ GE328.out) | exact HB.out))) : w.heap.size ≤ gb329)); have n5_ := As.mk ((by rw [hg]; exact Nat.ne_of_lt (blk_lt (g := gb328) (o := .cells #[.string a0_0, .string a0_1, .slice A0_2 l0_2.length c0_2] 24 (0, 0)) (by (with_reducible repeat (first | refine kN ?_ _ | refine kD ?_ | refine kA ?_ _)); exact BK328.out)) : gb328 ≠ gb329)); have n6_ := As.mk ((by rw [hg]; exact Nat.ne_of_gt (blk_lt (g := gb328) (o := .cells #[.string a0_0, .string a0_1, .slice A0_2 l0_2.length c0_2] 24 (0, 0)) (by (with_reducible repeat (first | refine kN ?_ _ | refine kD ?_ | refine kA ?_ _)); exact BK328.out)) : gb329 ≠ gb328)); clear BK328; clear HB; have BK328 := n0_; have HB := n1_; have BK329 := n2_; have GW329 := n3_; have GE329 := n4_; have NB328_329 := n5_; have NB329_328 := n6_; clear n0_ n1_ n2_ n3_ n4_ n5_ n6_; clear hb hbox hg) | ((with_reducible refine gate_callee (f := 7) rfl ?_); refine goesL_ (some 15) rfl rfl Tryd.func7 (by kernel_rfl) rfl #[] rfl (by (try simp only [List.map_toArray, List.map_cons, List.map_nil]); first | done | rfl | (simp only [List.length_drop, List.length_take]; rfl)) ?_; (with_reducible refine (majordomolaw06_shown.calls  true _ A4.out (UtfOk.of_below HU.out (by repeat (first | (with_reducible first | exact HB.out | apply bA | apply bN | apply bD | refine bS ?_ GE328.out | refine bS ?_ GE329.out) | exact HB.out)))).mono ?_); rintro e w62 ⟨rfl, hb⟩; refine ⟨_, rfl, ?_⟩; have n0_ := As.mk (kB (g := gb328) (o := .cells #[.string a0_0, .string a0_1, .slice A0_2 l0_2.length c0_2] 24 (0, 0)) (by (with_reducible repeat (first | refine kN ?_ _ | refine kD ?_ | refine kA ?_ _)); exact BK328.out) hb); have n1_ := As.mk (kB (g := gb329) (o := .cells #[.string a1_0, .string a1_1, .slice A1_2 l1_2.length c1_2] 24 (0, 0)) (by (with_reducible repeat (first | refine kN ?_ _ | refine kD ?_ | refine kA ?_ _)); exact BK329.out) hb); have n2_ := As.mk (bT (by repeat (first | (with_reducible first | exact HB.out | apply bA | apply bN | apply bD | refine bS ?_ GE328.out | refine bS ?_ GE329.out) | exact HB.out)) hb); clear BK328; clear BK329; clear HB; have BK328 := n0_; have BK329 := n1_; have HB := n2_; clear n0_ n1_ n2_; (try clear hb); (try clear hb2); (try clear hk); (try clear hi); have hnb63 := NB328_329.out; have hnc63 := NB329_328.out; have hcz64_0 : w62.cell? ⟨gb328, 0, none⟩ = some (.string a0_0) := (kC BK328.out 0).trans rfl; have hcz64_1 : w62.cell? ⟨gb328, 1, none⟩ = some (.string a0_1) := (kC BK328.out 1).trans rfl; have hcz64_2 : w62.cell? ⟨gb328, 2, none⟩ = some (.slice A0_2 l0_2.length c0_2) := (kC BK328.out 2).trans rfl; have hfz64_0 := kF BK328.out 0; have hfz64_1 := kF BK328.out 1; have hfz64_2 := kF BK328.out 2) | ((with_reducible refine gate_callee (f := 11) rfl ?_); refine goesL_ (some 19) rfl rfl Tryd.func11 (by kernel_rfl) rfl #[.agg #[.string a0_0, .string a0_1, .slice A0_2 l0_2.length c0_2], .string a2] rfl (by (try simp only [List.map_toArray, List.map_cons, List.map_nil]); first | done | rfl | (simp only [List.length_drop, List.length_take]; rfl)) ?_; (with_reducible refine (resource_Get.calls k a0_0 a0_1 _ _ l0_2 a2 t331 t332 _ ?side1 ?side2 A5.out).mono ?_); (case side1 => repeat (first | exact (Kd.C_below HR0_2.out HB.out) | (with_reducible refine Kd.C_alloc ?_ _) | (with_reducible refine Kd.C_drewN ?_ _) | (with_reducible refine Kd.C_drew ?_))); (case side2 => exact HC0_2.out); rintro e w65 ⟨rfl, hb⟩; refine ⟨_, rfl, ?_⟩; have n0_ := As.mk (kB (g := gb328) (o := .cells #[.string a0_0, .string a0_1, .slice A0_2 l0_2.length c0_2] 24 (0, 0)) (by (with_reducible repeat (first | refine kN ?_ _ | refine kD ?_ | refine kA ?_ _)); exact BK328.out) hb); have n1_ := As.mk (kB (g := gb329) (o := .cells #[.string a1_0, .string a1_1, .slice A1_2 l1_2.length c1_2] 24 (0, 0)) (by (with_reducible repeat (first | refine kN ?_ _ | refine kD ?_ | refine kA ?_ _)); exact BK329.out) hb); have n2_ := As.mk (bT (by repeat (first | (with_reducible first | exact HB.out | apply bA | apply bN | apply bD | refine bS ?_ GE328.out | refine bS ?_ GE329.out) | exact HB.out)) hb); clear BK328; clear BK329; clear HB; have BK328 := n0_; have BK329 := n1_; have HB := n2_; clear n0_ n1_ n2_; (try clear hb); (try clear hb2); (try clear hk); (try clear hi); have hcz66_0 : w65.cell? ⟨gb328, 0, none⟩ = some (.string a0_0) := (kC BK328.out 0).trans rfl; have hcz66_1 : w65.cell? ⟨gb328, 1, none⟩ = some (.string a0_1) := (kC BK328.out 1).trans rfl; have hcz66_2 : w65.cell? ⟨gb328, 2, none⟩ = some (.slice A0_2 l0_2.length c0_2) := (kC BK328.out 2).trans rfl; have hfz66_0 := kF BK328.out 0; have hfz66_1 := kF BK328.out 1; have hfz66_2 := kF BK328.out 2) | ((with_reducible refine gate_callee (f := 12) rfl ?_); refine goesL_ (some 25) rfl rfl Tryd.func12 (by kernel_rfl) rfl #[.agg #[.string a0_0, .string a0_1, .slice A0_2 l0_2.length c0_2], .string a2] rfl (by (try simp only [List.map_toArray, List.map_cons, List.map_nil]); first | done | rfl | (simp only [List.length_drop, List.length_take]; rfl)) ?_; (with_reducible refine (majordomoref06_Get.calls k a0_0 a0_1 _ _ l0_2 a2 t333 t334 _ ?side1 ?side2 A6.out).mono ?_); (case side1 => repeat (first | exact (Kd.C_below HR0_2.out HB.out) | (with_reducible refine Kd.C_alloc ?_ _) | (with_reducible refine Kd.C_drewN ?_ _) | (with_reducible refine Kd.C_drew ?_))); (case side2 => exact HC0_2.out); rintro e w67 ⟨rfl, hb⟩; refine ⟨_, rfl, ?_⟩; have n0_ := As.mk (kB (g := gb328) (o := .cells #[.string a0_0, .string a0_1, .slice A0_2 l0_2.length c0_2] 24 (0, 0)) (by (with_reducible repeat (first | refine kN ?_ _ | refine kD ?_ | refine kA ?_ _)); exact BK328.out) hb); have n1_ := As.mk (kB (g := gb329) (o := .cells #[.string a1_0, .string a1_1, .slice A1_2 l1_2.length c1_2] 24 (0, 0)) (by (with_reducible repeat (first | refine kN ?_ _ | refine kD ?_ | refine kA ?_ _)); exact BK329.out) hb); have n2_ := As.mk (bT (by repeat (first | (with_reducible first | exact HB.out | apply bA | apply bN | apply bD | refine bS ?_ GE328.out | refine bS ?_ GE329.out) | exact HB.out)) hb); clear BK328; clear BK329; clear HB; have BK328 := n0_; have BK329 := n1_; have HB := n2_; clear n0_ n1_ n2_; (try clear hb); (try clear hb2); (try clear hk); (try clear hi); have hcz68_0 : w67.cell? ⟨gb328, 0, none⟩ = some (.string a0_0) := (kC BK328.out 0).trans rfl; have hcz68_1 : w67.cell? ⟨gb328, 1, none⟩ = some (.string a0_1) := (kC BK328.out 1).trans rfl; have hcz68_2 : w67.cell? ⟨gb328, 2, none⟩ = some (.slice A0_2 l0_2.length c0_2) := (kC BK328.out 2).trans rfl; have hfz68_0 := kF BK328.out 0; have hfz68_1 := kF BK328.out 1; have hfz68_2 := kF BK328.out 2; have hcz69_0 : w67.cell? ⟨gb329, 0, none⟩ = some (.string a1_0) := (kC BK329.out 0).trans rfl; have hcz69_1 : w67.cell? ⟨gb329, 1, none⟩ = some (.string a1_1) := (kC BK329.out 1).trans rfl; have hcz69_2 : w67.cell? ⟨gb329, 2, none⟩ = some (.slice A1_2 l1_2.length c1_2) := (kC BK329.out 2).trans rfl; have hfz69_0 := kF BK329.out 0; have hfz69_1 := kF BK329.out 1; have hfz69_2 := kF BK329.out 2) | ((with_reducible refine gate_callee (f := 13) rfl ?_); refine goesL_ (some 30) rfl rfl Tryd.func13 (by kernel_rfl) rfl #[.agg #[.string a0_0, .string a0_1, .slice A0_2 l0_2.length c0_2], .agg #[.string a1_0, .string a1_1, .slice A1_2 l1_2.length c1_2]] rfl (by (try simp only [List.map_toArray, List.map_cons, List.map_nil]); first | done | rfl | (simp only [List.length_drop, List.length_take]; rfl)) ?_; (with_reducible refine (resource_Less.calls a0_0 a0_1 _ _ l0_2 a1_0 a1_1 _ _ l1_2 false _ ?side1 ?side2 ?side3 ?side4 A7.out).mono ?_); (case side1 => repeat (first | exact (Kd.C_below HR0_2.out HB.out) | (with_reducible refine Kd.C_alloc ?_ _) | (with_reducible refine Kd.C_drewN ?_ _) | (with_reducible refine Kd.C_drew ?_))); (case side2 => exact HC0_2.out); (case side3 => repeat (first | exact (Kd.C_below HR1_2.out HB.out) | (with_reducible refine Kd.C_alloc ?_ _) | (with_reducible refine Kd.C_drewN ?_ _) | (with_reducible refine Kd.C_drew ?_))); (case side4 => exact HC1_2.out); rintro e w70 ⟨rfl, hb⟩; refine ⟨_, rfl, ?_⟩; have n0_ := As.mk (kB (g := gb328) (o := .cells #[.string a0_0, .string a0_1, .slice A0_2 l0_2.length c0_2] 24 (0, 0)) (by (with_reducible repeat (first | refine kN ?_ _ | refine kD ?_ | refine kA ?_ _)); exact BK328.out) hb); have n1_ := As.mk (kB (g := gb329) (o := .cells #[.string a1_0, .string a1_1, .slice A1_2 l1_2.length c1_2] 24 (0, 0)) (by (with_reducible repeat (first | refine kN ?_ _ | refine kD ?_ | refine kA ?_ _)); exact BK329.out) hb); have n2_ := As.mk (bT (by repeat (first | (with_reducible first | exact HB.out | apply bA | apply bN | apply bD | refine bS ?_ GE328.out | refine bS ?_ GE329.out) | exact HB.out)) hb); clear BK328; clear BK329; clear HB; have BK328 := n0_; have BK329 := n1_; have HB := n2_; clear n0_ n1_ n2_; (try clear hb); (try clear hb2); (try clear hk); (try clear hi); have hcz71_0 : w70.cell? ⟨gb329, 0, none⟩ = some (.string a1_0) := (kC BK329.out 0).trans rfl; have hcz71_1 : w70.cell? ⟨gb329, 1, none⟩ = some (.string a1_1) := (kC BK329.out 1).trans rfl; have hcz71_2 : w70.cell? ⟨gb329, 2, none⟩ = some (.slice A1_2 l1_2.length c1_2) := (kC BK329.out 2).trans rfl; have hfz71_0 := kF BK329.out 0; have hfz71_1 := kF BK329.out 1; have hfz71_2 := kF BK329.out 2; have hcz72_0 : w70.cell? ⟨gb328, 0, none⟩ = some (.string a0_0) := (kC BK328.out 0).trans rfl; have hcz72_1 : w70.cell? ⟨gb328, 1, none⟩ = some (.string a0_1) := (kC BK328.out 1).trans rfl; have hcz72_2 : w70.cell? ⟨gb328, 2, none⟩ = some (.slice A0_2 l0_2.length c0_2) := (kC BK328.out 2).trans rfl; have hfz72_0 := kF BK328.out 0; have hfz72_1 := kF BK328.out 1; have hfz72_2 := kF BK328.out 2) | ((with_reducible refine gate_callee (f := 13) rfl ?_); refine goesL_ (some 33) rfl rfl Tryd.func13 (by kernel_rfl) rfl #[.agg #[.string a1_0, .string a1_1, .slice A1_2 l1_2.length c1_2], .agg #[.string a0_0, .string a0_1, .slice A0_2 l0_2.length c0_2]] rfl (by (try simp only [List.map_toArray, List.map_cons, List.map_nil]); first | done | rfl | (simp only [List.length_drop, List.length_take]; rfl)) ?_; (with_reducible refine (resource_Less.calls a1_0 a1_1 _ _ l1_2 a0_0 a0_1 _ _ l0_2 t336 _ ?side1 ?side2 ?side3 ?side4 A8.out).mono ?_); (case side1 => repeat (first | exact (Kd.C_below HR1_2.out HB.out) | (with_reducible refine Kd.C_alloc ?_ _) | (with_reducible refine Kd.C_drewN ?_ _) | (with_reducible refine Kd.C_drew ?_))); (case side2 => exact HC1_2.out); (case side3 => repeat (first | exact (Kd.C_below HR0_2.out HB.out) | (with_reducible refine Kd.C_alloc ?_ _) | (with_reducible refine Kd.C_drewN ?_ _) | (with_reducible refine Kd.C_drew ?_))); (case side4 => exact HC0_2.out); rintro e w73 ⟨rfl, hb⟩; refine ⟨_, rfl, ?_⟩; have n0_ := As.mk (kB (g := gb328) (o := .cells #[.string a0_0, .string a0_1, .slice A0_2 l0_2.length c0_2] 24 (0, 0)) (by (with_reducible repeat (first | refine kN ?_ _ | refine kD ?_ | refine kA ?_ _)); exact BK328.out) hb); have n1_ := As.mk (kB (g := gb329) (o := .cells #[.string a1_0, .string a1_1, .slice A1_2 l1_2.length c1_2] 24 (0, 0)) (by (with_reducible repeat (first | refine kN ?_ _ | refine kD ?_ | refine kA ?_ _)); exact BK329.out) hb); have n2_ := As.mk (bT (by repeat (first | (with_reducible first | exact HB.out | apply bA | apply bN | apply bD | refine bS ?_ GE328.out | refine bS ?_ GE329.out) | exact HB.out)) hb); clear BK328; clear BK329; clear HB; have BK328 := n0_; have BK329 := n1_; have HB := n2_; clear n0_ n1_ n2_; (try clear hb); (try clear hb2); (try clear hk); (try clear hi); have hcz74_0 : w73.cell? ⟨gb328, 0, none⟩ = some (.string a0_0) := (kC BK328.out 0).trans rfl; have hcz74_1 : w73.cell? ⟨gb328, 1, none⟩ = some (.string a0_1) := (kC BK328.out 1).trans rfl; have hcz74_2 : w73.cell? ⟨gb328, 2, none⟩ = some (.slice A0_2 l0_2.length c0_2) := (kC BK328.out 2).trans rfl; have hfz74_0 := kF BK328.out 0; have hfz74_1 := kF BK328.out 1; have hfz74_2 := kF BK328.out 2; have hcz75_0 : w73.cell? ⟨gb329, 0, none⟩ = some (.string a1_0) := (kC BK329.out 0).trans rfl; have hcz75_1 : w73.cell? ⟨gb329, 1, none⟩ = some (.string a1_1) := (kC BK329.out 1).trans rfl; have hcz75_2 : w73.cell? ⟨gb329, 2, none⟩ = some (.slice A1_2 l1_2.length c1_2) := (kC BK329.out 2).trans rfl; have hfz75_0 := kF BK329.out 0; have hfz75_1 := kF BK329.out 1; have hfz75_2 := kF BK329.out 2))
   have n0_ := As.mk (kD BK328.out)
   have n1_ := As.mk (kD BK329.out)
   have n2_ := As.mk (bD HB.out)
   clear BK328
   clear BK329
   clear HB
   have BK328 := n0_
   have BK329 := n1_
   have HB := n2_
   clear n0_ n1_ n2_
   refine start_ (n := 42) (S := fun w' => w'.cell? ⟨gb328, 0, none⟩ = some (.string a0_0) ∧ w'.cell? ⟨gb328, 1, none⟩ = some (.string a0_1) ∧ w'.cell? ⟨gb328, 2, none⟩ = some (.slice A0_2 l0_2.length c0_2) ∧ w'.cell? ⟨gb329, 0, none⟩ = some (.string a1_0) ∧ w'.cell? ⟨gb329, 1, none⟩ = some (.string a1_1) ∧ w'.cell? ⟨gb329, 2, none⟩ = some (.slice A1_2 l1_2.length c1_2)) (ds := []) #[false, false, false, false, false, false, false, false, false, false, false, false, false, false, false, false, false, false, false, false, false, false, false, false, false, false, false, false, false, false, false, false, false, false, false, false, false, false, false, false, false, false] (by kernel_rfl) rfl rfl ⟨(kC BK328.out 0).trans rfl, (kC BK328.out 1).trans rfl, (kC BK328.out 2).trans rfl, (kC BK329.out 0).trans rfl, (kC BK329.out 1).trans rfl, (kC BK329.out 2).trans rfl⟩ (fun hHeld => ?_); refine with_tabW majordomolaw06_ResourceNames.tab7 majordomolaw06_ResourceNames.bits7 (fun HT_ HW_ => ?_)
   generalize w73.drew = w76 at BK328 BK329 HB hHeld ⊢
   refine pure_ (i := 0) (N := some 46) (v := ?_) (a' := ?_) #[true, false, false, false, false, false, false, false, false, false, false, false, false, false, false, false, false, false, false, false, false, false, false, false, false, false, false, false, false, false, false, false, false, false, false, false, false, false, false, false, false, false] rfl rfl (any_of HT_.out (by kernel_rfl)) (fun _ _ _ h => h) (Or.inl ⟨by rfl, ?_⟩) ?_ ?_
   rotate_left
   · intro w'
     go_simp
     with_reducible rfl
   rotate_left
   · simp only [Act.put, zA, zZ, zS, i64_w, i32_w]
     rfl
   refine pure_ (i := 1) (N := some 47) (v := ?_) (a' := ?_) #[true, true, false, false, false, false, false, false, false, false, false, false, false, false, false, false, false, false, false, false, false, false, false, false, false, false, false, false, false, false, false, false, false, false, false, false, false, false, false, false, false, false] rfl rfl (any_of HT_.out (by kernel_rfl)) (fun _ _ _ h => h) (Or.inl ⟨by rfl, ?_⟩) ?_ ?_
   rotate_left
   · intro w'
     go_simp
     with_reducible rfl
   rotate_left
   · simp only [Act.put, zA, zZ, zS, i64_w, i32_w]
     rfl
   refine pure_ (i := 2) (N := some 48) (v := ?_) (a' := ?_) #[true, true, true, false, false, false, false, false, false, false, false, false, false, false, false, false, false, false, false, false, false, false, false, false, false, false, false, false, false, false, false, false, false, false, false, false, false, false, false, false, false, false] rfl rfl (any_of HT_.out (by kernel_rfl)) (fun _ _ _ h => h) (Or.inl ⟨by rfl, ?_⟩) ?_ ?_
   rotate_left
   · intro w'
     go_simp
     with_reducible rfl
   rotate_left
   · simp only [Act.put, zA, zZ, zS, i64_w, i32_w]
     rfl
   refine pure_ (i := 3) (N := some 49) (v := ?_) (a' := ?_) #[true, true, true, true, false, false, false, false, false, false, false, false, false, false, false, false, false, false, false, false, false, false, false, false, false, false, false, false, false, false, false, false, false, false, false, false, false, false, false, false, false, false] rfl rfl (any_of HT_.out (by kernel_rfl)) (fun _ _ _ h => h) (Or.inl ⟨by rfl, ?_⟩) ?_ ?_
   rotate_left
   · intro w'
     go_simp
     with_reducible rfl
   rotate_left
   · simp only [Act.put, zA, zZ, zS, i64_w, i32_w]
     rfl
   refine pure_ (i := 4) (N := some 50) (v := ?_) (a' := ?_) #[true, true, true, true, true, false, false, false, false, false, false, false, false, false, false, false, false, false, false, false, false, false, false, false, false, false, false, false, false, false, false, false, false, false, false, false, false, false, false, false, false, false] rfl rfl (any_of HT_.out (by kernel_rfl)) (fun _ _ _ h => h) (Or.inl ⟨by rfl, ?_⟩) ?_ ?_
   rotate_left
   · intro w'
     go_simp
     with_reducible rfl
   rotate_left
   · simp only [Act.put, zA, zZ, zS, i64_w, i32_w]
     rfl
   refine pure_ (i := 5) (N := some 51) (v := ?_) (a' := ?_) #[true, true, true, true, true, true, false, false, false, false, false, false, false, false, false, false, false, false, false, false, false, false, false, false, false, false, false, false, false, false, false, false, false, false, false, false, false, false, false, false, false, false] rfl rfl (any_of HT_.out (by kernel_rfl)) (fun _ _ _ h => h) (Or.inl ⟨by rfl, ?_⟩) ?_ ?_
   rotate_left
   · intro w'
     go_simp
     with_reducible rfl
   rotate_left
   · simp only [Act.put, zA, zZ, zS, i64_w, i32_w]
     rfl
   refine pure_ (i := 6) (N := some 52) (v := ?_) (a' := ?_) #[true, true, true, true, true, true, true, false, false, false, false, false, false, false, false, false, false, false, false, false, false, false, false, false, false, false, false, false, false, false, false, false, false, false, false, false, false, false, false, false, false, false] rfl rfl (any_of HT_.out (by kernel_rfl)) (fun _ _ _ h => h) (Or.inl ⟨by rfl, ?_⟩) ?_ ?_
   rotate_left
   · intro w'
     go_simp
     with_reducible rfl
   rotate_left
   · simp only [Act.put, zA, zZ, zS, i64_w, i32_w]
     rfl
   refine pure_ (i := 7) (N := some 53) (v := ?_) (a' := ?_) #[true, true, true, true, true, true, true, true, false, false, false, false, false, false, false, false, false, false, false, false, false, false, false, false, false, false, false, false, false, false, false, false, false, false, false, false, false, false, false, false, false, false] rfl rfl (any_of HT_.out (by kernel_rfl)) (fun _ _ _ h => h) (Or.inl ⟨by rfl, ?_⟩) ?_ ?_
   rotate_left
   · intro w'
     go_simp
     with_reducible rfl
   rotate_left
   · simp only [Act.put, zA, zZ, zS, i64_w, i32_w]
     rfl
   refine pure_ (i := 8) (N := some 54) (v := ?_) (a' := ?_) #[true, true, true, true, true, true, true, true, true, false, false, false, false, false, false, false, false, false, false, false, false, false, false, false, false, false, false, false, false, false, false, false, false, false, false, false, false, false, false, false, false, false] rfl rfl (any_of HT_.out (by kernel_rfl)) (fun _ _ _ h => h) (Or.inl ⟨by rfl, ?_⟩) ?_ ?_
   rotate_left
   · intro w'
     go_simp
     with_reducible rfl
   rotate_left
   · simp only [Act.put, zA, zZ, zS, i64_w, i32_w]
     rfl
   refine pure_ (i := 9) (N := some 55) (v := ?_) (a' := ?_) #[true, true, true, true, true, true, true, true, true, true, false, false, false, false, false, false, false, false, false, false, false, false, false, false, false, false, false, false, false, false, false, false, false, false, false, false, false, false, false, false, false, false] rfl rfl (any_of HT_.out (by kernel_rfl)) (fun _ _ _ h => h) (Or.inl ⟨by rfl, ?_⟩) ?_ ?_
   rotate_left
   · intro w'
     go_simp
     with_reducible rfl
   rotate_left
   · simp only [Act.put, zA, zZ, zS, i64_w, i32_w]
     rfl
   refine pure_ (i := 10) (N := some 56) (v := ?_) (a' := ?_) #[true, true, true, true, true, true, true, true, true, true, true, false, false, false, false, false, false, false, false, false, false, false, false, false, false, false, false, false, false, false, false, false, false, false, false, false, false, false, false, false, false, false] rfl rfl (any_of HT_.out (by kernel_rfl)) (fun _ _ _ h => h) (Or.inl ⟨by rfl, ?_⟩) ?_ ?_
   rotate_left
   · intro w'
     go_simp
     with_reducible rfl
   rotate_left
   · simp only [Act.put, zA, zZ, zS, i64_w, i32_w]
     rfl
   refine pure_ (i := 11) (N := some 57) (v := ?_) (a' := ?_) #[true, true, true, true, true, true, true, true, true, true, true, true, false, false, false, false, false, false, false, false, false, false, false, false, false, false, false, false, false, false, false, false, false, false, false, false, false, false, false, false, false, false] rfl rfl (any_of HT_.out (by kernel_rfl)) (fun _ _ _ h => h) (Or.inl ⟨by rfl, ?_⟩) ?_ ?_
   rotate_left
   · intro w'
     go_simp
     with_reducible rfl
   rotate_left
   · simp only [Act.put, zA, zZ, zS, i64_w, i32_w]
     rfl
   refine take_ (i := 12) (N := some 58) (v := ?_) (a' := ?_) #[true, true, true, true, true, true, true, true, true, true, true, true, true, false, false, false, false, false, false, false, false, false, false, false, false, false, false, false, false, false, false, false, false, false, false, false, false, false, false, false, false, false] rfl rfl (take_ofW HT_.out HW_.out (by kernel_rfl)) (fun _ _ _ h => h) (Or.inl ⟨by rfl, ?_⟩) hHeld ?_ ?_
   rotate_left
   · rintro w' ⟨s0, s1, s2, s3, s4, s5⟩
     go_simp
     with_reducible rfl
   rotate_left
   · simp only [Act.put, zA, zZ, zS, i64_w, i32_w]
     rfl
   refine take_ (i := 14) (N := some 60) (v := ?_) (a' := ?_) #[true, true, true, true, true, true, true, true, true, true, true, true, true, false, true, false, false, false, false, false, false, false, false, false, false, false, false, false, false, false, false, false, false, false, false, false, false, false, false, false, false, false] rfl rfl (take_ofW HT_.out HW_.out (by kernel_rfl)) (fun _ _ _ h => h) (Or.inl ⟨by rfl, ?_⟩) hHeld ?_ ?_
   rotate_left
   · rintro w' ⟨s0, s1, s2, s3, s4, s5⟩
     go_simp
     with_reducible rfl
   rotate_left
   · simp only [Act.put, zA, zZ, zS, i64_w, i32_w]
     rfl
   refine one_ (i := 13) (N := some 59) #[true, true, true, true, true, true, true, true, true, true, true, true, true, true, true, false, false, false, false, false, false, false, false, false, false, false, false, false, false, false, false, false, false, false, false, false, false, false, false, false, false, false] rfl rfl (one_of HT_.out (by kernel_rfl)) (by decide) (fun K hK => ?_)
   refine goes_ Tryd.func14 (by kernel_rfl) rfl #[.agg #[.string a0_0, .string a0_1, .slice A0_2 l0_2.length c0_2]] (by rfl) rfl rfl (by (try simp only [List.map_toArray, List.map_cons, List.map_nil]); first | done | rfl | (simp only [List.length_drop, List.length_take]; rfl)) ?_
   with_reducible refine (resource_Name.calls a0_0 a0_1 _ _ l0_2 t337 _ ?side1 ?side2 A13.out).mono ?_
   (case side1 => repeat (first | exact (Kd.C_below HR0_2.out HB.out) | (with_reducible refine Kd.C_alloc ?_ _) | (with_reducible refine Kd.C_drewN ?_ _) | (with_reducible refine Kd.C_drew ?_)))
   (case side2 => exact HC0_2.out)
   rintro e w77 ⟨rfl, hb⟩
   refine ⟨_, rfl, ?_⟩
   have n0_ := As.mk (kB (g := gb328) (o := .cells #[.string a0_0, .string a0_1, .slice A0_2 l0_2.length c0_2] 24 (0, 0)) (by (with_reducible repeat (first | refine kN ?_ _ | refine kD ?_ | refine kA ?_ _)); exact BK328.out) hb)
   have n1_ := As.mk (kB (g := gb329) (o := .cells #[.string a1_0, .string a1_1, .slice A1_2 l1_2.length c1_2] 24 (0, 0)) (by (with_reducible repeat (first | refine kN ?_ _ | refine kD ?_ | refine kA ?_ _)); exact BK329.out) hb)
   have n2_ := As.mk (bT (by repeat (first | (with_reducible first | exact HB.out | apply bA | apply bN | apply bD | refine bS ?_ GE328.out | refine bS ?_ GE329.out) | exact HB.out)) hb)
   clear BK328
   clear BK329
   clear HB
   have BK328 := n0_
   have BK329 := n1_
   have HB := n2_
   clear n0_ n1_ n2_
   (try clear hb)
   (try clear hb2)
   (try clear hk)
   (try clear hi)
   refine hK.out _ _ ⟨(kC BK328.out 0).trans rfl, (kC BK328.out 1).trans rfl, (kC BK328.out 2).trans rfl, (kC BK329.out 0).trans rfl, (kC BK329.out 1).trans rfl, (kC BK329.out 2).trans rfl⟩ (fun hHeld => ?_)
   clear hK K
   refine norm_ (a' := ?_) ?_ ?_
   rotate_left
   · show Act.put _ (some 59) _ = _
     simp only [Act.put, zA, zZ, zS, i64_w, i32_w]
     rfl
   refine one_ (i := 15) (N := some 61) #[true, true, true, true, true, true, true, true, true, true, true, true, true, true, true, true, false, false, false, false, false, false, false, false, false, false, false, false, false, false, false, false, false, false, false, false, false, false, false, false, false, false] rfl rfl (one_of HT_.out (by kernel_rfl)) (by decide) (fun K hK => ?_)
   refine goes_ Tryd.func15 (by kernel_rfl) rfl #[.agg #[.string a0_0, .string a0_1, .slice A0_2 l0_2.length c0_2]] (by rfl) rfl rfl (by (try simp only [List.map_toArray, List.map_cons, List.map_nil]); first | done | rfl | (simp only [List.length_drop, List.length_take]; rfl)) ?_
   with_reducible refine (majordomoref06_Name.calls a0_0 a0_1 _ _ l0_2 t338 _ ?side1 ?side2 A14.out).mono ?_
   (case side1 => repeat (first | exact (Kd.C_below HR0_2.out HB.out) | (with_reducible refine Kd.C_alloc ?_ _) | (with_reducible refine Kd.C_drewN ?_ _) | (with_reducible refine Kd.C_drew ?_)))
   (case side2 => exact HC0_2.out)
   rintro e w78 ⟨rfl, hb⟩
   refine ⟨_, rfl, ?_⟩
   have n0_ := As.mk (kB (g := gb328) (o := .cells #[.string a0_0, .string a0_1, .slice A0_2 l0_2.length c0_2] 24 (0, 0)) (by (with_reducible repeat (first | refine kN ?_ _ | refine kD ?_ | refine kA ?_ _)); exact BK328.out) hb)
   have n1_ := As.mk (kB (g := gb329) (o := .cells #[.string a1_0, .string a1_1, .slice A1_2 l1_2.length c1_2] 24 (0, 0)) (by (with_reducible repeat (first | refine kN ?_ _ | refine kD ?_ | refine kA ?_ _)); exact BK329.out) hb)
   have n2_ := As.mk (bT (by repeat (first | (with_reducible first | exact HB.out | apply bA | apply bN | apply bD | refine bS ?_ GE328.out | refine bS ?_ GE329.out) | exact HB.out)) hb)
   clear BK328
   clear BK329
   clear HB
   have BK328 := n0_
   have BK329 := n1_
   have HB := n2_
   clear n0_ n1_ n2_
   (try clear hb)
   (try clear hb2)
   (try clear hk)
   (try clear hi)
   refine hK.out _ _ ⟨(kC BK328.out 0).trans rfl, (kC BK328.out 1).trans rfl, (kC BK328.out 2).trans rfl, (kC BK329.out 0).trans rfl, (kC BK329.out 1).trans rfl, (kC BK329.out 2).trans rfl⟩ (fun hHeld => ?_)
   clear hK K
   refine norm_ (a' := ?_) ?_ ?_
   rotate_left
   · show Act.put _ (some 61) _ = _
     simp only [Act.put, zA, zZ, zS, i64_w, i32_w]
     rfl
   refine pure_ (i := 16) (N := some 62) (v := ?_) (a' := ?_) #[true, true, true, true, true, true, true, true, true, true, true, true, true, true, true, true, true, false, false, false, false, false, false, false, false, false, false, false, false, false, false, false, false, false, false, false, false, false, false, false, false, false] rfl rfl (any_of HT_.out (by kernel_rfl)) (fun _ _ _ h => h) (Or.inl ⟨by rfl, ?_⟩) ?_ ?_
   rotate_left
   · intro w'
     go_simp
     with_reducible rfl
   rotate_left
   · simp only [Act.put, zA, zZ, zS, i64_w, i32_w]
     rfl
   refine pure_ (i := 17) (N := some 63) (v := ?_) (a' := ?_) #[true, true, true, true, true, true, true, true, true, true, true, true, true, true, true, true, true, true, false, false, false, false, false, false, false, false, false, false, false, false, false, false, false, false, false, false, false, false, false, false, false, false] rfl rfl (any_of HT_.out (by kernel_rfl)) (fun _ _ _ h => h) (Or.inl ⟨by rfl, ?_⟩) ?_ ?_
   rotate_left
   · intro w'
     go_simp
     with_reducible rfl
   rotate_left
   · simp only [Act.put, zA, zZ, zS, i64_w, i32_w]
     rfl
   refine pure_ (i := 18) (N := some 64) (v := ?_) (a' := ?_) #[true, true, true, true, true, true, true, true, true, true, true, true, true, true, true, true, true, true, true, false, false, false, false, false, false, false, false, false, false, false, false, false, false, false, false, false, false, false, false, false, false, false] rfl rfl (any_of HT_.out (by kernel_rfl)) (fun _ _ _ h => h) (Or.inl ⟨by rfl, ?_⟩) ?_ ?_
   rotate_left
   · intro w'
     go_simp
     with_reducible rfl
   rotate_left
   · simp only [Act.put, zA, zZ, zS, i64_w, i32_w]
     rfl
   refine pure_ (i := 19) (N := some 65) (v := ?_) (a' := ?_) #[true, true, true, true, true, true, true, true, true, true, true, true, true, true, true, true, true, true, true, true, false, false, false, false, false, false, false, false, false, false, false, false, false, false, false, false, false, false, false, false, false, false] rfl rfl (any_of HT_.out (by kernel_rfl)) (fun _ _ _ h => h) (Or.inl ⟨by rfl, ?_⟩) ?_ ?_
   rotate_left
   · intro w'
     go_simp
     with_reducible rfl
   rotate_left
   · simp only [Act.put, zA, zZ, zS, i64_w, i32_w]
     rfl
   refine take_ (i := 20) (N := some 66) (v := ?_) (a' := ?_) #[true, true, true, true, true, true, true, true, true, true, true, true, true, true, true, true, true, true, true, true, true, false, false, false, false, false, false, false, false, false, false, false, false, false, false, false, false, false, false, false, false, false] rfl rfl (take_ofW HT_.out HW_.out (by kernel_rfl)) (fun _ _ _ h => h) (Or.inl ⟨by rfl, ?_⟩) hHeld ?_ ?_
   rotate_left
   · rintro w' ⟨s0, s1, s2, s3, s4, s5⟩
     go_simp
     with_reducible rfl
   rotate_left
   · simp only [Act.put, zA, zZ, zS, i64_w, i32_w]
     rfl
   refine take_ (i := 21) (N := some 67) (v := ?_) (a' := ?_) #[true, true, true, true, true, true, true, true, true, true, true, true, true, true, true, true, true, true, true, true, true, true, false, false, false, false, false, false, false, false, false, false, false, false, false, false, false, false, false, false, false, false] rfl rfl (take_ofW HT_.out HW_.out (by kernel_rfl)) (fun _ _ _ h => h) (Or.inl ⟨by rfl, ?_⟩) hHeld ?_ ?_
   rotate_left
   · rintro w' ⟨s0, s1, s2, s3, s4, s5⟩
     go_simp
     with_reducible rfl
   rotate_left
   · simp only [Act.put, zA, zZ, zS, i64_w, i32_w]
     rfl
   refine one_ (i := 22) (N := some 68) #[true, true, true, true, true, true, true, true, true, true, true, true, true, true, true, true, true, true, true, true, true, true, true, false, false, false, false, false, false, false, false, false, false, false, false, false, false, false, false, false, false, false] rfl rfl (one_of HT_.out (by kernel_rfl)) (by decide) (fun K hK => ?_)
   refine goes_ Tryd.func16 (by kernel_rfl) rfl #[.agg #[.string a0_0, .string a0_1, .slice A0_2 l0_2.length c0_2], .agg #[.string a1_0, .string a1_1, .slice A1_2 l1_2.length c1_2]] (by rfl) rfl rfl (by (try simp only [List.map_toArray, List.map_cons, List.map_nil]); first | done | rfl | (simp only [List.length_drop, List.length_take]; rfl)) ?_
   with_reducible refine (majordomoref06_Less.calls a0_0 a0_1 _ _ l0_2 a1_0 a1_1 _ _ l1_2 t339 _ ?side1 ?side2 ?side3 ?side4 A16.out).mono ?_
   (case side1 => repeat (first | exact (Kd.C_below HR0_2.out HB.out) | (with_reducible refine Kd.C_alloc ?_ _) | (with_reducible refine Kd.C_drewN ?_ _) | (with_reducible refine Kd.C_drew ?_)))
   (case side2 => exact HC0_2.out)
   (case side3 => repeat (first | exact (Kd.C_below HR1_2.out HB.out) | (with_reducible refine Kd.C_alloc ?_ _) | (with_reducible refine Kd.C_drewN ?_ _) | (with_reducible refine Kd.C_drew ?_)))
   (case side4 => exact HC1_2.out)
   rintro e w79 ⟨rfl, hb⟩
   refine ⟨_, rfl, ?_⟩
   have n0_ := As.mk (kB (g := gb328) (o := .cells #[.string a0_0, .string a0_1, .slice A0_2 l0_2.length c0_2] 24 (0, 0)) (by (with_reducible repeat (first | refine kN ?_ _ | refine kD ?_ | refine kA ?_ _)); exact BK328.out) hb)
   have n1_ := As.mk (kB (g := gb329) (o := .cells #[.string a1_0, .string a1_1, .slice A1_2 l1_2.length c1_2] 24 (0, 0)) (by (with_reducible repeat (first | refine kN ?_ _ | refine kD ?_ | refine kA ?_ _)); exact BK329.out) hb)
   have n2_ := As.mk (bT (by repeat (first | (with_reducible first | exact HB.out | apply bA | apply bN | apply bD | refine bS ?_ GE328.out | refine bS ?_ GE329.out) | exact HB.out)) hb)
   clear BK328
   clear BK329
   clear HB
   have BK328 := n0_
   have BK329 := n1_
   have HB := n2_
   clear n0_ n1_ n2_
   (try clear hb)
   (try clear hb2)
   (try clear hk)
   (try clear hi)
   refine hK.out _ _ ⟨(kC BK328.out 0).trans rfl, (kC BK328.out 1).trans rfl, (kC BK328.out 2).trans rfl, (kC BK329.out 0).trans rfl, (kC BK329.out 1).trans rfl, (kC BK329.out 2).trans rfl⟩ (fun hHeld => ?_)
   clear hK K
   refine norm_ (a' := ?_) ?_ ?_
   rotate_left
   · show Act.put _ (some 68) _ = _
     simp only [Act.put, zA, zZ, zS, i64_w, i32_w]
     rfl
   refine pure_ (i := 23) (N := some 69) (v := ?_) (a' := ?_) #[true, true, true, true, true, true, true, true, true, true, true, true, true, true, true, true, true, true, true, true, true, true, true, true, false, false, false, false, false, false, false, false, false, false, false, false, false, false, false, false, false, false] rfl rfl (any_of HT_.out (by kernel_rfl)) (fun _ _ _ h => h) (Or.inl ⟨by rfl, ?_⟩) ?_ ?_
   rotate_left
   · intro w'
     go_simp
     with_reducible rfl
   rotate_left
   · simp only [Act.put, zA, zZ, zS, i64_w, i32_w]
     rfl
   refine pure_ (i := 24) (N := some 70) (v := ?_) (a' := ?_) #[true, true, true, true, true, true, true, true, true, true, true, true, true, true, true, true, true, true, true, true, true, true, true, true, true, false, false, false, false, false, false, false, false, false, false, false, false, false, false, false, false, false] rfl rfl (any_of HT_.out (by kernel_rfl)) (fun _ _ _ h => h) (Or.inl ⟨by rfl, ?_⟩) ?_ ?_
   rotate_left
   · intro w'
     go_simp
     with_reducible rfl
   rotate_left
   · simp only [Act.put, zA, zZ, zS, i64_w, i32_w]
     rfl
   refine pure_ (i := 25) (N := some 71) (v := ?_) (a' := ?_) #[true, true, true, true, true, true, true, true, true, true, true, true, true, true, true, true, true, true, true, true, true, true, true, true, true, true, false, false, false, false, false, false, false, false, false, false, false, false, false, false, false, false] rfl rfl (any_of HT_.out (by kernel_rfl)) (fun _ _ _ h => h) (Or.inl ⟨by rfl, ?_⟩) ?_ ?_
   rotate_left
   · intro w'
     go_simp
     with_reducible rfl
   rotate_left
   · simp only [Act.put, zA, zZ, zS, i64_w, i32_w]
     rfl
   refine pure_ (i := 26) (N := some 72) (v := ?_) (a' := ?_) #[true, true, true, true, true, true, true, true, true, true, true, true, true, true, true, true, true, true, true, true, true, true, true, true, true, true, true, false, false, false, false, false, false, false, false, false, false, false, false, false, false, false] rfl rfl (any_of HT_.out (by kernel_rfl)) (fun _ _ _ h => h) (Or.inl ⟨by rfl, ?_⟩) ?_ ?_
   rotate_left
   · intro w'
     go_simp
     with_reducible rfl
   rotate_left
   · simp only [Act.put, zA, zZ, zS, i64_w, i32_w]
     rfl
   refine pure_ (i := 27) (N := some 73) (v := ?_) (a' := ?_) #[true, true, true, true, true, true, true, true, true, true, true, true, true, true, true, true, true, true, true, true, true, true, true, true, true, true, true, true, false, false, false, false, false, false, false, false, false, false, false, false, false, false] rfl rfl (any_of HT_.out (by kernel_rfl)) (fun _ _ _ h => h) (Or.inl ⟨by rfl, ?_⟩) ?_ ?_
   rotate_left
   · intro w'
     go_simp
     with_reducible rfl
   rotate_left
   · simp only [Act.put, zA, zZ, zS, i64_w, i32_w]
     rfl
   refine pure_ (i := 28) (N := some 74) (v := undef) (a' := ?_) #[true, true, true, true, true, true, true, true, true, true, true, true, true, true, true, true, true, true, true, true, true, true, true, true, true, true, true, true, true, false, false, false, false, false, false, false, false, false, false, false, false, false] rfl rfl (any_of HT_.out (by kernel_rfl)) (fun _ _ _ h => h) (Or.inr ⟨by rfl, rfl⟩) ?_ ?_
   rotate_left
   · simp only [Act.put, zA, zZ, zS, i64_w, i32_w]
     rfl
   refine pure_ (i := 29) (N := some 75) (v := ?_) (a' := ?_) #[true, true, true, true, true, true, true, true, true, true, true, true, true, true, true, true, true, true, true, true, true, true, true, true, true, true, true, true, true, true, false, false, false, false, false, false, false, false, false, false, false, false] rfl rfl (any_of HT_.out (by kernel_rfl)) (fun _ _ _ h => h) (Or.inl ⟨by rfl, ?_⟩) ?_ ?_
   rotate_left
   · intro w'
     go_simp
     with_reducible rfl
   rotate_left
   · simp only [Act.put, zA, zZ, zS, i64_w, i32_w]
     rfl
   refine pure_ (i := 30) (N := some 76) (v := ?_) (a' := ?_) #[true, true, true, true, true, true, true, true, true, true, true, true, true, true, true, true, true, true, true, true, true, true, true, true, true, true, true, true, true, true, true, false, false, false, false, false, false, false, false, false, false, false] rfl rfl (any_of HT_.out (by kernel_rfl)) (fun _ _ _ h => h) (Or.inl ⟨by rfl, ?_⟩) ?_ ?_
   rotate_left
   · intro w'
     go_simp
     with_reducible rfl
   rotate_left
   · simp only [Act.put, zA, zZ, zS, i64_w, i32_w]
     rfl
   refine pure_ (i := 31) (N := some 77) (v := ?_) (a' := ?_) #[true, true, true, true, true, true, true, true, true, true, true, true, true, true, true, true, true, true, true, true, true, true, true, true, true, true, true, true, true, true, true, true, false, false, false, false, false, false, false, false, false, false] rfl rfl (any_of HT_.out (by kernel_rfl)) (fun _ _ _ h => h) (Or.inl ⟨by rfl, ?_⟩) ?_ ?_
   rotate_left
   · intro w'
     go_simp
     with_reducible rfl
   rotate_left
   · simp only [Act.put, zA, zZ, zS, i64_w, i32_w]
     rfl
   refine pure_ (i := 32) (N := some 78) (v := ?_) (a' := ?_) #[true, true, true, true, true, true, true, true, true, true, true, true, true, true, true, true, true, true, true, true, true, true, true, true, true, true, true, true, true, true, true, true, true, false, false, false, false, false, false, false, false, false] rfl rfl (any_of HT_.out (by kernel_rfl)) (fun _ _ _ h => h) (Or.inl ⟨by rfl, ?_⟩) ?_ ?_
   rotate_left
   · intro w'
     go_simp
     with_reducible rfl
   rotate_left
   · simp only [Act.put, zA, zZ, zS, i64_w, i32_w]
     rfl
   refine pure_ (i := 33) (N := some 79) (v := ?_) (a' := ?_) #[true, true, true, true, true, true, true, true, true, true, true, true, true, true, true, true, true, true, true, true, true, true, true, true, true, true, true, true, true, true, true, true, true, true, false, false, false, false, false, false, false, false] rfl rfl (any_of HT_.out (by kernel_rfl)) (fun _ _ _ h => h) (Or.inl ⟨by rfl, ?_⟩) ?_ ?_
   rotate_left
   · intro w'
     go_simp
     with_reducible rfl
   rotate_left
   · simp only [Act.put, zA, zZ, zS, i64_w, i32_w]
     rfl
   refine pure_ (i := 34) (N := some 80) (v := ?_) (a' := ?_) #[true, true, true, true, true, true, true, true, true, true, true, true, true, true, true, true, true, true, true, true, true, true, true, true, true, true, true, true, true, true, true, true, true, true, true, false, false, false, false, false, false, false] rfl rfl (any_of HT_.out (by kernel_rfl)) (fun _ _ _ h => h) (Or.inl ⟨by rfl, ?_⟩) ?_ ?_
   rotate_left
   · intro w'
     go_simp
     with_reducible rfl
   rotate_left
   · simp only [Act.put, zA, zZ, zS, i64_w, i32_w]
     rfl
   refine pure_ (i := 35) (N := some 81) (v := ?_) (a' := ?_) #[true, true, true, true, true, true, true, true, true, true, true, true, true, true, true, true, true, true, true, true, true, true, true, true, true, true, true, true, true, true, true, true, true, true, true, true, false, false, false, false, false, false] rfl rfl (any_of HT_.out (by kernel_rfl)) (fun _ _ _ h => h) (Or.inl ⟨by rfl, ?_⟩) ?_ ?_
   rotate_left
   · intro w'
     go_simp
     with_reducible rfl
   rotate_left
   · simp only [Act.put, zA, zZ, zS, i64_w, i32_w]
     rfl
   refine pure_ (i := 36) (N := some 82) (v := ?_) (a' := ?_) #[true, true, true, true, true, true, true, true, true, true, true, true, true, true, true, true, true, true, true, true, true, true, true, true, true, true, true, true, true, true, true, true, true, true, true, true, true, false, false, false, false, false] rfl rfl (any_of HT_.out (by kernel_rfl)) (fun _ _ _ h => h) (Or.inl ⟨by rfl, ?_⟩) ?_ ?_
   rotate_left
   · intro w'
     go_simp
     with_reducible rfl
   rotate_left
   · simp only [Act.put, zA, zZ, zS, i64_w, i32_w]
     rfl
   refine pure_ (i := 37) (N := some 83) (v := ?_) (a' := ?_) #[true, true, true, true, true, true, true, true, true, true, true, true, true, true, true, true, true, true, true, true, true, true, true, true, true, true, true, true, true, true, true, true, true, true, true, true, true, true, false, false, false, false] rfl rfl (any_of HT_.out (by kernel_rfl)) (fun _ _ _ h => h) (Or.inl ⟨by rfl, ?_⟩) ?_ ?_
   rotate_left
   · intro w'
     go_simp
     with_reducible rfl
   rotate_left
   · simp only [Act.put, zA, zZ, zS, i64_w, i32_w]
     rfl
   refine pure_ (i := 38) (N := some 84) (v := ?_) (a' := ?_) #[true, true, true, true, true, true, true, true, true, true, true, true, true, true, true, true, true, true, true, true, true, true, true, true, true, true, true, true, true, true, true, true, true, true, true, true, true, true, true, false, false, false] rfl rfl (any_of HT_.out (by kernel_rfl)) (fun _ _ _ h => h) (Or.inl ⟨by rfl, ?_⟩) ?_ ?_
   rotate_left
   · intro w'
     go_simp
     with_reducible rfl
   rotate_left
   · simp only [Act.put, zA, zZ, zS, i64_w, i32_w]
     rfl
   refine pure_ (i := 39) (N := some 85) (v := ?_) (a' := ?_) #[true, true, true, true, true, true, true, true, true, true, true, true, true, true, true, true, true, true, true, true, true, true, true, true, true, true, true, true, true, true, true, true, true, true, true, true, true, true, true, true, false, false] rfl rfl (any_of HT_.out (by kernel_rfl)) (fun _ _ _ h => h) (Or.inl ⟨by rfl, ?_⟩) ?_ ?_
   rotate_left
   · intro w'
     go_simp
     with_reducible rfl
   rotate_left
   · simp only [Act.put, zA, zZ, zS, i64_w, i32_w]
     rfl
   refine pure_ (i := 40) (N := some 86) (v := ?_) (a' := ?_) #[true, true, true, true, true, true, true, true, true, true, true, true, true, true, true, true, true, true, true, true, true, true, true, true, true, true, true, true, true, true, true, true, true, true, true, true, true, true, true, true, true, false] rfl rfl (any_of HT_.out (by kernel_rfl)) (fun _ _ _ h => h) (Or.inl ⟨by rfl, ?_⟩) ?_ ?_
   rotate_left
   · intro w'
     go_simp
     with_reducible rfl
   rotate_left
   · simp only [Act.put, zA, zZ, zS, i64_w, i32_w]
     rfl
   refine pure_ (i := 41) (N := some 6) (v := ?_) (a' := ?_) #[true, true, true, true, true, true, true, true, true, true, true, true, true, true, true, true, true, true, true, true, true, true, true, true, true, true, true, true, true, true, true, true, true, true, true, true, true, true, true, true, true, true] rfl rfl (any_of HT_.out (by kernel_rfl)) (fun _ _ _ h => h) (Or.inl ⟨by rfl, ?_⟩) ?_ ?_
   rotate_left
   · intro w'
     go_simp
     with_reducible rfl
   rotate_left
   · simp only [Act.put, zA, zZ, zS, i64_w, i32_w]
     rfl
   refine done_ (done_of HT_.out (by kernel_rfl)) ?_
   try go_wp2
   go_ret
   exact ⟨by first | rfl | (simp [errW_none, errW_some] <;> rfl) | (simp [*, errW_none, errW_some] <;> rfl), by repeat (first | (with_reducible first | exact HB.out | apply bA | apply bN | apply bD | refine bS ?_ GE328.out | refine bS ?_ GE329.out) | exact HB.out)⟩
 subst c18
 rw [if_pos rfl] at H
 by_cases c19 : t336 = true
 · rw [if_pos c19] at H
   exact absurd ((Option.some.inj H).trans HRR.out) (by decide)
 replace c19 := Bool.eq_false_iff.mpr c19
 subst c19
 rw [if_neg (show ¬ (false = true) by decide)] at H
 obtain rfl := Option.some.inj H
 go_enter Tryd.func6, Tryd.ntmps6
 try go_wp2_with (first | ((with_reducible refine gate_dst (N := 3) rfl ?_); refine box_event ?hg (N := 3) ?hd (cs := #[.string a0_0, .string a0_1, .slice A0_2 l0_2.length c0_2]) (t := 24) ?hr ?_; (case hd => rfl); (case hg => rfl); (case hr => first | (go_simp; done) | (go_simp; rfl)); intro gb328 hg w40 hbox hb; have n0_ := As.mk (bT (by repeat (first | (with_reducible first | exact HB.out | apply bA | apply bN | apply bD) | exact HB.out)) hb); have n1_ := As.mk (hbox); have n2_ := As.mk ((by rw [hg]; exact (bZ (by repeat (first | (with_reducible first | exact HB.out | apply bA | apply bN | apply bD) | exact HB.out))) : w.heap.size ≤ gb328)); have n3_ := As.mk ((by rw [hg]; exact (bZ (by repeat (first | (with_reducible first | exact HB.out | apply bA | apply bN | apply bD) | exact HB.out))) : w.heap.size ≤ gb328)); clear HB; have HB := n0_; have BK328 := n1_; have GW328 := n2_; have GE328 := n3_; clear n0_ n1_ n2_ n3_; clear hb hbox hg) | ((with_reducible refine gate_dst (N := 4) rfl ?_); refine box_event ?hg (N := 4) ?hd (cs := #[.string a1_0, .string a1_1, .slice A1_2 l1_2.length c1_2]) (t := 24) ?hr ?_; (case hd => rfl); (case hg => rfl); (case hr => first | (go_simp; done) | (go_simp; rfl)); intro gb329 hg w41 hbox hb; have n0_ := As.mk (kB (g := gb328) (o := .cells #[.string a0_0, .string a0_1, .slice A0_2 l0_2.length c0_2] 24 (0, 0)) (by (with_reducible repeat (first | refine kN ?_ _ | refine kD ?_ | refine kA ?_ _)); exact BK328.out) hb); have n1_ := As.mk (bT (by repeat (first | (with_reducible first | exact HB.out | apply bA | apply bN | apply bD | refine bS ?_ GE328.out) | exact HB.out)) hb); have n2_ := As.mk (hbox); have n3_ := As.mk ((by rw [hg]; exact (bZ (by repeat (first | (with_reducible first | exact HB.out | apply bA | apply bN | apply bD | refine bS ?_ GE328.out) | exact HB.out))) : w.heap.size ≤ gb329)); have n4_ := As.mk ((by rw [hg]; exact (bZ (by repeat (first | (with_reducible first | exact HB.out | apply bA | apply bN | apply bD | refine bS ?_ GE328.out) | exact HB.out))) : w.heap.size ≤ gb329)); have n5_ := As.mk ((by rw [hg]; exact Nat.ne_of_lt (blk_lt (g := gb328) (o := .cells #[.string a0_0, .string a0_1, .slice A0_2 l0_2.length c0_2] 24 (0, 0)) (by (with_reducible repeat (first | refine kN ?_ _ | refine kD ?_ | refine kA ?_ _)); exact BK328.out)) : gb328 ≠ gb329)); have n6_ := As.mk ((by rw [hg]; exact Nat.ne_of_gt (blk_lt (g := gb328) (o := .cells #[.string a0_0, .string a0_1, .slice A0_2 l0_2.length c0_2] 24 (0, 0)) (by (with_reducible repeat (first | refine kN ?_ _ | refine kD ?_ | refine kA ?_ _)); exact BK328.out)) : gb329 ≠ gb328)); clear BK328; clear HB; have BK328 := n0_; have HB := n1_; have BK329 := n2_; have GW329 := n3_; have GE329 := n4_; have NB328_329 := n5_; have NB329_328 := n6_; clear n0_ n1_ n2_ n3_ n4_ n5_ n6_; clear hb hbox hg) | ((with_reducible refine gate_callee (f := 7) rfl ?_); refine goesL_ (some 15) rfl rfl Tryd.func7 (by kernel_rfl) rfl #[] rfl (by (try simp only [List.map_toArray, List.map_cons, List.map_nil]); first | done | rfl | (simp only [List.length_drop, List.length_take]; rfl)) ?_; (with_reducible refine (majordomolaw06_shown.calls  true _ A4.out (UtfOk.of_below HU.out (by repeat (first | (with_reducible first | exact HB.out | apply bA | apply bN | apply bD | refine bS ?_ GE328.out | refine bS ?_ GE329.out) | exact HB.out)))).mono ?_); rintro e w42 ⟨rfl, hb⟩; refine ⟨_, rfl, ?_⟩; have n0_ := As.mk (kB (g := gb328) (o := .cells #[.string a0_0, .string a0_1, .slice A0_2 l0_2.length c0_2] 24 (0, 0)) (by (with_reducible repeat (first | refine kN ?_ _ | refine kD ?_ | refine kA ?_ _)); exact BK328.out) hb); have n1_ := As.mk (kB (g := gb329) (o := .cells #[.string a1_0, .string a1_1, .slice A1_2 l1_2.length c1_2] 24 (0, 0)) (by (with_reducible repeat (first | refine kN ?_ _ | refine kD ?_ | refine kA ?_ _)); exact BK329.out) hb); have n2_ := As.mk (bT (by repeat (first | (with_reducible first | exact HB.out | apply bA | apply bN | apply bD | refine bS ?_ GE328.out | refine bS ?_ GE329.out) | exact HB.out)) hb); clear BK328; clear BK329; clear HB; have BK328 := n0_; have BK329 := n1_; have HB := n2_; clear n0_ n1_ n2_; (try clear hb); (try clear hb2); (try clear hk); (try clear hi); have hnb43 := NB328_329.out; have hnc43 := NB329_328.out; have hcz44_0 : w42.cell? ⟨gb328, 0, none⟩ = some (.string a0_0) := (kC BK328.out 0).trans rfl; have hcz44_1 : w42.cell? ⟨gb328, 1, none⟩ = some (.string a0_1) := (kC BK328.out 1).trans rfl; have hcz44_2 : w42.cell? ⟨gb328, 2, none⟩ = some (.slice A0_2 l0_2.length c0_2) := (kC BK328.out 2).trans rfl; have hfz44_0 := kF BK328.out 0; have hfz44_1 := kF BK328.out 1; have hfz44_2 := kF BK328.out 2) | ((with_reducible refine gate_callee (f := 11) rfl ?_); refine goesL_ (some 19) rfl rfl Tryd.func11 (by kernel_rfl) rfl #[.agg #[.string a0_0, .string a0_1, .slice A0_2 l0_2.length c0_2], .string a2] rfl (by (try simp only [List.map_toArray, List.map_cons, List.map_nil]); first | done | rfl | (simp only [List.length_drop, List.length_take]; rfl)) ?_; (with_reducible refine (resource_Get.calls k a0_0 a0_1 _ _ l0_2 a2 t331 t332 _ ?side1 ?side2 A5.out).mono ?_); (case side1 => repeat (first | exact (Kd.C_below HR0_2.out HB.out) | (with_reducible refine Kd.C_alloc ?_ _) | (with_reducible refine Kd.C_drewN ?_ _) | (with_reducible refine Kd.C_drew ?_))); (case side2 => exact HC0_2.out); rintro e w45 ⟨rfl, hb⟩; refine ⟨_, rfl, ?_⟩; have n0_ := As.mk (kB (g := gb328) (o := .cells #[.string a0_0, .string a0_1, .slice A0_2 l0_2.length c0_2] 24 (0, 0)) (by (with_reducible repeat (first | refine kN ?_ _ | refine kD ?_ | refine kA ?_ _)); exact BK328.out) hb); have n1_ := As.mk (kB (g := gb329) (o := .cells #[.string a1_0, .string a1_1, .slice A1_2 l1_2.length c1_2] 24 (0, 0)) (by (with_reducible repeat (first | refine kN ?_ _ | refine kD ?_ | refine kA ?_ _)); exact BK329.out) hb); have n2_ := As.mk (bT (by repeat (first | (with_reducible first | exact HB.out | apply bA | apply bN | apply bD | refine bS ?_ GE328.out | refine bS ?_ GE329.out) | exact HB.out)) hb); clear BK328; clear BK329; clear HB; have BK328 := n0_; have BK329 := n1_; have HB := n2_; clear n0_ n1_ n2_; (try clear hb); (try clear hb2); (try clear hk); (try clear hi); have hcz46_0 : w45.cell? ⟨gb328, 0, none⟩ = some (.string a0_0) := (kC BK328.out 0).trans rfl; have hcz46_1 : w45.cell? ⟨gb328, 1, none⟩ = some (.string a0_1) := (kC BK328.out 1).trans rfl; have hcz46_2 : w45.cell? ⟨gb328, 2, none⟩ = some (.slice A0_2 l0_2.length c0_2) := (kC BK328.out 2).trans rfl; have hfz46_0 := kF BK328.out 0; have hfz46_1 := kF BK328.out 1; have hfz46_2 := kF BK328.out 2) | ((with_reducible refine gate_callee (f := 12) rfl ?_); refine goesL_ (some 25) rfl rfl Tryd.func12 (by kernel_rfl) rfl #[.agg #[.string a0_0, .string a0_1, .slice A0_2 l0_2.length c0_2], .string a2] rfl (by (try simp only [List.map_toArray, List.map_cons, List.map_nil]); first | done | rfl | (simp only [List.length_drop, List.length_take]; rfl)) ?_; (with_reducible refine (majordomoref06_Get.calls k a0_0 a0_1 _ _ l0_2 a2 t333 t334 _ ?side1 ?side2 A6.out).mono ?_); (case side1 => repeat (first | exact (Kd.C_below HR0_2.out HB.out) | (with_reducible refine Kd.C_alloc ?_ _) | (with_reducible refine Kd.C_drewN ?_ _) | (with_reducible refine Kd.C_drew ?_))); (case side2 => exact HC0_2.out); rintro e w47 ⟨rfl, hb⟩; refine ⟨_, rfl, ?_⟩; have n0_ := As.mk (kB (g := gb328) (o := .cells #[.string a0_0, .string a0_1, .slice A0_2 l0_2.length c0_2] 24 (0, 0)) (by (with_reducible repeat (first | refine kN ?_ _ | refine kD ?_ | refine kA ?_ _)); exact BK328.out) hb); have n1_ := As.mk (kB (g := gb329) (o := .cells #[.string a1_0, .string a1_1, .slice A1_2 l1_2.length c1_2] 24 (0, 0)) (by (with_reducible repeat (first | refine kN ?_ _ | refine kD ?_ | refine kA ?_ _)); exact BK329.out) hb); have n2_ := As.mk (bT (by repeat (first | (with_reducible first | exact HB.out | apply bA | apply bN | apply bD | refine bS ?_ GE328.out | refine bS ?_ GE329.out) | exact HB.out)) hb); clear BK328; clear BK329; clear HB; have BK328 := n0_; have BK329 := n1_; have HB := n2_; clear n0_ n1_ n2_; (try clear hb); (try clear hb2); (try clear hk); (try clear hi); have hcz48_0 : w47.cell? ⟨gb328, 0, none⟩ = some (.string a0_0) := (kC BK328.out 0).trans rfl; have hcz48_1 : w47.cell? ⟨gb328, 1, none⟩ = some (.string a0_1) := (kC BK328.out 1).trans rfl; have hcz48_2 : w47.cell? ⟨gb328, 2, none⟩ = some (.slice A0_2 l0_2.length c0_2) := (kC BK328.out 2).trans rfl; have hfz48_0 := kF BK328.out 0; have hfz48_1 := kF BK328.out 1; have hfz48_2 := kF BK328.out 2; have hcz49_0 : w47.cell? ⟨gb329, 0, none⟩ = some (.string a1_0) := (kC BK329.out 0).trans rfl; have hcz49_1 : w47.cell? ⟨gb329, 1, none⟩ = some (.string a1_1) := (kC BK329.out 1).trans rfl; have hcz49_2 : w47.cell? ⟨gb329, 2, none⟩ = some (.slice A1_2 l1_2.length c1_2) := (kC BK329.out 2).trans rfl; have hfz49_0 := kF BK329.out 0; have hfz49_1 := kF BK329.out 1; have hfz49_2 := kF BK329.out 2) | ((with_reducible refine gate_callee (f := 13) rfl ?_); refine goesL_ (some 30) rfl rfl Tryd.func13 (by kernel_rfl) rfl #[.agg #[.string a0_0, .string a0_1, .slice A0_2 l0_2.length c0_2], .agg #[.string a1_0, .string a1_1, .slice A1_2 l1_2.length c1_2]] rfl (by (try simp only [List.map_toArray, List.map_cons, List.map_nil]); first | done | rfl | (simp only [List.length_drop, List.length_take]; rfl)) ?_; (with_reducible refine (resource_Less.calls a0_0 a0_1 _ _ l0_2 a1_0 a1_1 _ _ l1_2 true _ ?side1 ?side2 ?side3 ?side4 A7.out).mono ?_); (case side1 => repeat (first | exact (Kd.C_below HR0_2.out HB.out) | (with_reducible refine Kd.C_alloc ?_ _) | (with_reducible refine Kd.C_drewN ?_ _) | (with_reducible refine Kd.C_drew ?_))); (case side2 => exact HC0_2.out); (case side3 => repeat (first | exact (Kd.C_below HR1_2.out HB.out) | (with_reducible refine Kd.C_alloc ?_ _) | (with_reducible refine Kd.C_drewN ?_ _) | (with_reducible refine Kd.C_drew ?_))); (case side4 => exact HC1_2.out); rintro e w50 ⟨rfl, hb⟩; refine ⟨_, rfl, ?_⟩; have n0_ := As.mk (kB (g := gb328) (o := .cells #[.string a0_0, .string a0_1, .slice A0_2 l0_2.length c0_2] 24 (0, 0)) (by (with_reducible repeat (first | refine kN ?_ _ | refine kD ?_ | refine kA ?_ _)); exact BK328.out) hb); have n1_ := As.mk (kB (g := gb329) (o := .cells #[.string a1_0, .string a1_1, .slice A1_2 l1_2.length c1_2] 24 (0, 0)) (by (with_reducible repeat (first | refine kN ?_ _ | refine kD ?_ | refine kA ?_ _)); exact BK329.out) hb); have n2_ := As.mk (bT (by repeat (first | (with_reducible first | exact HB.out | apply bA | apply bN | apply bD | refine bS ?_ GE328.out | refine bS ?_ GE329.out) | exact HB.out)) hb); clear BK328; clear BK329; clear HB; have BK328 := n0_; have BK329 := n1_; have HB := n2_; clear n0_ n1_ n2_; (try clear hb); (try clear hb2); (try clear hk); (try clear hi); have hcz51_0 : w50.cell? ⟨gb329, 0, none⟩ = some (.string a1_0) := (kC BK329.out 0).trans rfl; have hcz51_1 : w50.cell? ⟨gb329, 1, none⟩ = some (.string a1_1) := (kC BK329.out 1).trans rfl; have hcz51_2 : w50.cell? ⟨gb329, 2, none⟩ = some (.slice A1_2 l1_2.length c1_2) := (kC BK329.out 2).trans rfl; have hfz51_0 := kF BK329.out 0; have hfz51_1 := kF BK329.out 1; have hfz51_2 := kF BK329.out 2; have hcz52_0 : w50.cell? ⟨gb328, 0, none⟩ = some (.string a0_0) := (kC BK328.out 0).trans rfl; have hcz52_1 : w50.cell? ⟨gb328, 1, none⟩ = some (.string a0_1) := (kC BK328.out 1).trans rfl; have hcz52_2 : w50.cell? ⟨gb328, 2, none⟩ = some (.slice A0_2 l0_2.length c0_2) := (kC BK328.out 2).trans rfl; have hfz52_0 := kF BK328.out 0; have hfz52_1 := kF BK328.out 1; have hfz52_2 := kF BK328.out 2) | ((with_reducible refine gate_callee (f := 13) rfl ?_); refine goesL_ (some 33) rfl rfl Tryd.func13 (by kernel_rfl) rfl #[.agg #[.string a1_0, .string a1_1, .slice A1_2 l1_2.length c1_2], .agg #[.string a0_0, .string a0_1, .slice A0_2 l0_2.length c0_2]] rfl (by (try simp only [List.map_toArray, List.map_cons, List.map_nil]); first | done | rfl | (simp only [List.length_drop, List.length_take]; rfl)) ?_; (with_reducible refine (resource_Less.calls a1_0 a1_1 _ _ l1_2 a0_0 a0_1 _ _ l0_2 false _ ?side1 ?side2 ?side3 ?side4 A8.out).mono ?_); (case side1 => repeat (first | exact (Kd.C_below HR1_2.out HB.out) | (with_reducible refine Kd.C_alloc ?_ _) | (with_reducible refine Kd.C_drewN ?_ _) | (with_reducible refine Kd.C_drew ?_))); (case side2 => exact HC1_2.out); (case side3 => repeat (first | exact (Kd.C_below HR0_2.out HB.out) | (with_reducible refine Kd.C_alloc ?_ _) | (with_reducible refine Kd.C_drewN ?_ _) | (with_reducible refine Kd.C_drew ?_))); (case side4 => exact HC0_2.out); rintro e w53 ⟨rfl, hb⟩; refine ⟨_, rfl, ?_⟩; have n0_ := As.mk (kB (g := gb328) (o := .cells #[.string a0_0, .string a0_1, .slice A0_2 l0_2.length c0_2] 24 (0, 0)) (by (with_reducible repeat (first | refine kN ?_ _ | refine kD ?_ | refine kA ?_ _)); exact BK328.out) hb); have n1_ := As.mk (kB (g := gb329) (o := .cells #[.string a1_0, .string a1_1, .slice A1_2 l1_2.length c1_2] 24 (0, 0)) (by (with_reducible repeat (first | refine kN ?_ _ | refine kD ?_ | refine kA ?_ _)); exact BK329.out) hb); have n2_ := As.mk (bT (by repeat (first | (with_reducible first | exact HB.out | apply bA | apply bN | apply bD | refine bS ?_ GE328.out | refine bS ?_ GE329.out) | exact HB.out)) hb); clear BK328; clear BK329; clear HB; have BK328 := n0_; have BK329 := n1_; have HB := n2_; clear n0_ n1_ n2_; (try clear hb); (try clear hb2); (try clear hk); (try clear hi); have hcz54_0 : w53.cell? ⟨gb328, 0, none⟩ = some (.string a0_0) := (kC BK328.out 0).trans rfl; have hcz54_1 : w53.cell? ⟨gb328, 1, none⟩ = some (.string a0_1) := (kC BK328.out 1).trans rfl; have hcz54_2 : w53.cell? ⟨gb328, 2, none⟩ = some (.slice A0_2 l0_2.length c0_2) := (kC BK328.out 2).trans rfl; have hfz54_0 := kF BK328.out 0; have hfz54_1 := kF BK328.out 1; have hfz54_2 := kF BK328.out 2; have hcz55_0 : w53.cell? ⟨gb329, 0, none⟩ = some (.string a1_0) := (kC BK329.out 0).trans rfl; have hcz55_1 : w53.cell? ⟨gb329, 1, none⟩ = some (.string a1_1) := (kC BK329.out 1).trans rfl; have hcz55_2 : w53.cell? ⟨gb329, 2, none⟩ = some (.slice A1_2 l1_2.length c1_2) := (kC BK329.out 2).trans rfl; have hfz55_0 := kF BK329.out 0; have hfz55_1 := kF BK329.out 1; have hfz55_2 := kF BK329.out 2))
 have n0_ := As.mk (kD BK328.out)
 have n1_ := As.mk (kD BK329.out)
 have n2_ := As.mk (bD HB.out)
 clear BK328
 clear BK329
 clear HB
 have BK328 := n0_
 have BK329 := n1_
 have HB := n2_
 clear n0_ n1_ n2_
 refine start_ (n := 42) (S := fun w' => w'.cell? ⟨gb328, 0, none⟩ = some (.string a0_0) ∧ w'.cell? ⟨gb328, 1, none⟩ = some (.string a0_1) ∧ w'.cell? ⟨gb328, 2, none⟩ = some (.slice A0_2 l0_2.length c0_2) ∧ w'.cell? ⟨gb329, 0, none⟩ = some (.string a1_0) ∧ w'.cell? ⟨gb329, 1, none⟩ = some (.string a1_1) ∧ w'.cell? ⟨gb329, 2, none⟩ = some (.slice A1_2 l1_2.length c1_2)) (ds := []) #[false, false, false, false, false, false, false, false, false, false, false, false, false, false, false, false, false, false, false, false, false, false, false, false, false, false, false, false, false, false, false, false, false, false, false, false, false, false, false, false, false, false] (by kernel_rfl) rfl rfl ⟨(kC BK328.out 0).trans rfl, (kC BK328.out 1).trans rfl, (kC BK328.out 2).trans rfl, (kC BK329.out 0).trans rfl, (kC BK329.out 1).trans rfl, (kC BK329.out 2).trans rfl⟩ (fun hHeld => ?_); refine with_tabW majordomolaw06_ResourceNames.tab7 majordomolaw06_ResourceNames.bits7 (fun HT_ HW_ => ?_)
 generalize w53.drew = w56 at BK328 BK329 HB hHeld ⊢
 refine pure_ (i := 0) (N := some 46) (v := ?_) (a' := ?_) #[true, false, false, false, false, false, false, false, false, false, false, false, false, false, false, false, false, false, false, false, false, false, false, false, false, false, false, false, false, false, false, false, false, false, false, false, false, false, false, false, false, false] rfl rfl (any_of HT_.out (by kernel_rfl)) (fun _ _ _ h => h) (Or.inl ⟨by rfl, ?_⟩) ?_ ?_
 rotate_left
 · intro w'
   go_simp
   with_reducible rfl
 rotate_left
 · simp only [Act.put, zA, zZ, zS, i64_w, i32_w]
   rfl
 refine pure_ (i := 1) (N := some 47) (v := ?_) (a' := ?_) #[true, true, false, false, false, false, false, false, false, false, false, false, false, false, false, false, false, false, false, false, false, false, false, false, false, false, false, false, false, false, false, false, false, false, false, false, false, false, false, false, false, false] rfl rfl (any_of HT_.out (by kernel_rfl)) (fun _ _ _ h => h) (Or.inl ⟨by rfl, ?_⟩) ?_ ?_
 rotate_left
 · intro w'
   go_simp
   with_reducible rfl
 rotate_left
 · simp only [Act.put, zA, zZ, zS, i64_w, i32_w]
   rfl
 refine pure_ (i := 2) (N := some 48) (v := ?_) (a' := ?_) #[true, true, true, false, false, false, false, false, false, false, false, false, false, false, false, false, false, false, false, false, false, false, false, false, false, false, false, false, false, false, false, false, false, false, false, false, false, false, false, false, false, false] rfl rfl (any_of HT_.out (by kernel_rfl)) (fun _ _ _ h => h) (Or.inl ⟨by rfl, ?_⟩) ?_ ?_
 rotate_left
 · intro w'
   go_simp
   with_reducible rfl
 rotate_left
 · simp only [Act.put, zA, zZ, zS, i64_w, i32_w]
   rfl
 refine pure_ (i := 3) (N := some 49) (v := ?_) (a' := ?_) #[true, true, true, true, false, false, false, false, false, false, false, false, false, false, false, false, false, false, false, false, false, false, false, false, false, false, false, false, false, false, false, false, false, false, false, false, false, false, false, false, false, false] rfl rfl (any_of HT_.out (by kernel_rfl)) (fun _ _ _ h => h) (Or.inl ⟨by rfl, ?_⟩) ?_ ?_
 rotate_left
 · intro w'
   go_simp
   with_reducible rfl
 rotate_left
 · simp only [Act.put, zA, zZ, zS, i64_w, i32_w]
   rfl
 refine pure_ (i := 4) (N := some 50) (v := ?_) (a' := ?_) #[true, true, true, true, true, false, false, false, false, false, false, false, false, false, false, false, false, false, false, false, false, false, false, false, false, false, false, false, false, false, false, false, false, false, false, false, false, false, false, false, false, false] rfl rfl (any_of HT_.out (by kernel_rfl)) (fun _ _ _ h => h) (Or.inl ⟨by rfl, ?_⟩) ?_ ?_
 rotate_left
 · intro w'
   go_simp
   with_reducible rfl
 rotate_left
 · simp only [Act.put, zA, zZ, zS, i64_w, i32_w]
   rfl
 refine pure_ (i := 5) (N := some 51) (v := ?_) (a' := ?_) #[true, true, true, true, true, true, false, false, false, false, false, false, false, false, false, false, false, false, false, false, false, false, false, false, false, false, false, false, false, false, false, false, false, false, false, false, false, false, false, false, false, false] rfl rfl (any_of HT_.out (by kernel_rfl)) (fun _ _ _ h => h) (Or.inl ⟨by rfl, ?_⟩) ?_ ?_
 rotate_left
 · intro w'
   go_simp
   with_reducible rfl
 rotate_left
 · simp only [Act.put, zA, zZ, zS, i64_w, i32_w]
   rfl
 refine pure_ (i := 6) (N := some 52) (v := ?_) (a' := ?_) #[true, true, true, true, true, true, true, false, false, false, false, false, false, false, false, false, false, false, false, false, false, false, false, false, false, false, false, false, false, false, false, false, false, false, false, false, false, false, false, false, false, false] rfl rfl (any_of HT_.out (by kernel_rfl)) (fun _ _ _ h => h) (Or.inl ⟨by rfl, ?_⟩) ?_ ?_
 rotate_left
 · intro w'
   go_simp
   with_reducible rfl
 rotate_left
 · simp only [Act.put, zA, zZ, zS, i64_w, i32_w]
   rfl
 refine pure_ (i := 7) (N := some 53) (v := ?_) (a' := ?_) #[true, true, true, true, true, true, true, true, false, false, false, false, false, false, false, false, false, false, false, false, false, false, false, false, false, false, false, false, false, false, false, false, false, false, false, false, false, false, false, false, false, false] rfl rfl (any_of HT_.out (by kernel_rfl)) (fun _ _ _ h => h) (Or.inl ⟨by rfl, ?_⟩) ?_ ?_
 rotate_left
 · intro w'
   go_simp
   with_reducible rfl
 rotate_left
 · simp only [Act.put, zA, zZ, zS, i64_w, i32_w]
   rfl
 refine pure_ (i := 8) (N := some 54) (v := ?_) (a' := ?_) #[true, true, true, true, true, true, true, true, true, false, false, false, false, false, false, false, false, false, false, false, false, false, false, false, false, false, false, false, false, false, false, false, false, false, false, false, false, false, false, false, false, false] rfl rfl (any_of HT_.out (by kernel_rfl)) (fun _ _ _ h => h) (Or.inl ⟨by rfl, ?_⟩) ?_ ?_
 rotate_left
 · intro w'
   go_simp
   with_reducible rfl
 rotate_left
 · simp only [Act.put, zA, zZ, zS, i64_w, i32_w]
   rfl
 refine pure_ (i := 9) (N := some 55) (v := ?_) (a' := ?_) #[true, true, true, true, true, true, true, true, true, true, false, false, false, false, false, false, false, false, false, false, false, false, false, false, false, false, false, false, false, false, false, false, false, false, false, false, false, false, false, false, false, false] rfl rfl (any_of HT_.out (by kernel_rfl)) (fun _ _ _ h => h) (Or.inl ⟨by rfl, ?_⟩) ?_ ?_
 rotate_left
 · intro w'
   go_simp
   with_reducible rfl
 rotate_left
 · simp only [Act.put, zA, zZ, zS, i64_w, i32_w]
   rfl
 refine pure_ (i := 10) (N := some 56) (v := ?_) (a' := ?_) #[true, true, true, true, true, true, true, true, true, true, true, false, false, false, false, false, false, false, false, false, false, false, false, false, false, false, false, false, false, false, false, false, false, false, false, false, false, false, false, false, false, false] rfl rfl (any_of HT_.out (by kernel_rfl)) (fun _ _ _ h => h) (Or.inl ⟨by rfl, ?_⟩) ?_ ?_
 rotate_left
 · intro w'
   go_simp
   with_reducible rfl
 rotate_left
 · simp only [Act.put, zA, zZ, zS, i64_w, i32_w]
   rfl
 refine pure_ (i := 11) (N := some 57) (v := ?_) (a' := ?_) #[true, true, true, true, true, true, true, true, true, true, true, true, false, false, false, false, false, false, false, false, false, false, false, false, false, false, false, false, false, false, false, false, false, false, false, false, false, false, false, false, false, false] rfl rfl (any_of HT_.out (by kernel_rfl)) (fun _ _ _ h => h) (Or.inl ⟨by rfl, ?_⟩) ?_ ?_
 rotate_left
 · intro w'
   go_simp
   with_reducible rfl
 rotate_left
 · simp only [Act.put, zA, zZ, zS, i64_w, i32_w]
   rfl
 refine take_ (i := 12) (N := some 58) (v := ?_) (a' := ?_) #[true, true, true, true, true, true, true, true, true, true, true, true, true, false, false, false, false, false, false, false, false, false, false, false, false, false, false, false, false, false, false, false, false, false, false, false, false, false, false, false, false, false] rfl rfl (take_ofW HT_.out HW_.out (by kernel_rfl)) (fun _ _ _ h => h) (Or.inl ⟨by rfl, ?_⟩) hHeld ?_ ?_
 rotate_left
 · rintro w' ⟨s0, s1, s2, s3, s4, s5⟩
   go_simp
   with_reducible rfl
 rotate_left
 · simp only [Act.put, zA, zZ, zS, i64_w, i32_w]
   rfl
 refine take_ (i := 14) (N := some 60) (v := ?_) (a' := ?_) #[true, true, true, true, true, true, true, true, true, true, true, true, true, false, true, false, false, false, false, false, false, false, false, false, false, false, false, false, false, false, false, false, false, false, false, false, false, false, false, false, false, false] rfl rfl (take_ofW HT_.out HW_.out (by kernel_rfl)) (fun _ _ _ h => h) (Or.inl ⟨by rfl, ?_⟩) hHeld ?_ ?_
 rotate_left
 · rintro w' ⟨s0, s1, s2, s3, s4, s5⟩
   go_simp
   with_reducible rfl
 rotate_left
 · simp only [Act.put, zA, zZ, zS, i64_w, i32_w]
   rfl
 refine one_ (i := 13) (N := some 59) #[true, true, true, true, true, true, true, true, true, true, true, true, true, true, true, false, false, false, false, false, false, false, false, false, false, false, false, false, false, false, false, false, false, false, false, false, false, false, false, false, false, false] rfl rfl (one_of HT_.out (by kernel_rfl)) (by decide) (fun K hK => ?_)
 refine goes_ Tryd.func14 (by kernel_rfl) rfl #[.agg #[.string a0_0, .string a0_1, .slice A0_2 l0_2.length c0_2]] (by rfl) rfl rfl (by (try simp only [List.map_toArray, List.map_cons, List.map_nil]); first | done | rfl | (simp only [List.length_drop, List.length_take]; rfl)) ?_
 with_reducible refine (resource_Name.calls a0_0 a0_1 _ _ l0_2 t337 _ ?side1 ?side2 A13.out).mono ?_
 (case side1 => repeat (first | exact (Kd.C_below HR0_2.out HB.out) | (with_reducible refine Kd.C_alloc ?_ _) | (with_reducible refine Kd.C_drewN ?_ _) | (with_reducible refine Kd.C_drew ?_)))
 (case side2 => exact HC0_2.out)
 rintro e w57 ⟨rfl, hb⟩
 refine ⟨_, rfl, ?_⟩
 have n0_ := As.mk (kB (g := gb328) (o := .cells #[.string a0_0, .string a0_1, .slice A0_2 l0_2.length c0_2] 24 (0, 0)) (by (with_reducible repeat (first | refine kN ?_ _ | refine kD ?_ | refine kA ?_ _)); exact BK328.out) hb)
 have n1_ := As.mk (kB (g := gb329) (o := .cells #[.string a1_0, .string a1_1, .slice A1_2 l1_2.length c1_2] 24 (0, 0)) (by (with_reducible repeat (first | refine kN ?_ _ | refine kD ?_ | refine kA ?_ _)); exact BK329.out) hb)
 have n2_ := As.mk (bT (by repeat (first | (with_reducible first | exact HB.out | apply bA | apply bN | apply bD | refine bS ?_ GE328.out | refine bS ?_ GE329.out) | exact HB.out)) hb)
 clear BK328
 clear BK329
 clear HB
 have BK328 := n0_
 have BK329 := n1_
 have HB := n2_
 clear n0_ n1_ n2_
 (try clear hb)
 (try clear hb2)
 (try clear hk)
 (try clear hi)
 refine hK.out _ _ ⟨(kC BK328.out 0).trans rfl, (kC BK328.out 1).trans rfl, (kC BK328.out 2).trans rfl, (kC BK329.out 0).trans rfl, (kC BK329.out 1).trans rfl, (kC BK329.out 2).trans rfl⟩ (fun hHeld => ?_)
 clear hK K
 refine norm_ (a' := ?_) ?_ ?_
 rotate_left
 · show Act.put _ (some 59) _ = _
   simp only [Act.put, zA, zZ, zS, i64_w, i32_w]
   rfl
 refine one_ (i := 15) (N := some 61) #[true, true, true, true, true, true, true, true, true, true, true, true, true, true, true, true, false, false, false, false, false, false, false, false, false, false, false, false, false, false, false, false, false, false, false, false, false, false, false, false, false, false] rfl rfl (one_of HT_.out (by kernel_rfl)) (by decide) (fun K hK => ?_)
 refine goes_ Tryd.func15 (by kernel_rfl) rfl #[.agg #[.string a0_0, .string a0_1, .slice A0_2 l0_2.length c0_2]] (by rfl) rfl rfl (by (try simp only [List.map_toArray, List.map_cons, List.map_nil]); first | done | rfl | (simp only [List.length_drop, List.length_take]; rfl)) ?_
 with_reducible refine (majordomoref06_Name.calls a0_0 a0_1 _ _ l0_2 t338 _ ?side1 ?side2 A14.out).mono ?_
 (case side1 => repeat (first | exact (Kd.C_below HR0_2.out HB.out) | (with_reducible refine Kd.C_alloc ?_ _) | (with_reducible refine Kd.C_drewN ?_ _) | (with_reducible refine Kd.C_drew ?_)))
 (case side2 => exact HC0_2.out)
 rintro e w58 ⟨rfl, hb⟩
 refine ⟨_, rfl, ?_⟩
 have n0_ := As.mk (kB (g := gb328) (o := .cells #[.string a0_0, .string a0_1, .slice A0_2 l0_2.length c0_2] 24 (0, 0)) (by (with_reducible repeat (first | refine kN ?_ _ | refine kD ?_ | refine kA ?_ _)); exact BK328.out) hb)
 have n1_ := As.mk (kB (g := gb329) (o := .cells #[.string a1_0, .string a1_1, .slice A1_2 l1_2.length c1_2] 24 (0, 0)) (by (with_reducible repeat (first | refine kN ?_ _ | refine kD ?_ | refine kA ?_ _)); exact BK329.out) hb)
 have n2_ := As.mk (bT (by repeat (first | (with_reducible first | exact HB.out | apply bA | apply bN | apply bD | refine bS ?_ GE328.out | refine bS ?_ GE329.out) | exact HB.out)) hb)
 clear BK328
 clear BK329
 clear HB
 have BK328 := n0_
 have BK329 := n1_
 have HB := n2_
 clear n0_ n1_ n2_
 (try clear hb)
 (try clear hb2)
 (try clear hk)
 (try clear hi)
 refine hK.out _ _ ⟨(kC BK328.out 0).trans rfl, (kC BK328.out 1).trans rfl, (kC BK328.out 2).trans rfl, (kC BK329.out 0).trans rfl, (kC BK329.out 1).trans rfl, (kC BK329.out 2).trans rfl⟩ (fun hHeld => ?_)
 clear hK K
 refine norm_ (a' := ?_) ?_ ?_
 rotate_left
 · show Act.put _ (some 61) _ = _
   simp only [Act.put, zA, zZ, zS, i64_w, i32_w]
   rfl
 refine pure_ (i := 16) (N := some 62) (v := ?_) (a' := ?_) #[true, true, true, true, true, true, true, true, true, true, true, true, true, true, true, true, true, false, false, false, false, false, false, false, false, false, false, false, false, false, false, false, false, false, false, false, false, false, false, false, false, false] rfl rfl (any_of HT_.out (by kernel_rfl)) (fun _ _ _ h => h) (Or.inl ⟨by rfl, ?_⟩) ?_ ?_
 rotate_left
 · intro w'
   go_simp
   with_reducible rfl
 rotate_left
 · simp only [Act.put, zA, zZ, zS, i64_w, i32_w]
   rfl
 refine pure_ (i := 17) (N := some 63) (v := ?_) (a' := ?_) #[true, true, true, true, true, true, true, true, true, true, true, true, true, true, true, true, true, true, false, false, false, false, false, false, false, false, false, false, false, false, false, false, false, false, false, false, false, false, false, false, false, false] rfl rfl (any_of HT_.out (by kernel_rfl)) (fun _ _ _ h => h) (Or.inl ⟨by rfl, ?_⟩) ?_ ?_
 rotate_left
 · intro w'
   go_simp
   with_reducible rfl
 rotate_left
 · simp only [Act.put, zA, zZ, zS, i64_w, i32_w]
   rfl
 refine pure_ (i := 18) (N := some 64) (v := ?_) (a' := ?_) #[true, true, true, true, true, true, true, true, true, true, true, true, true, true, true, true, true, true, true, false, false, false, false, false, false, false, false, false, false, false, false, false, false, false, false, false, false, false, false, false, false, false] rfl rfl (any_of HT_.out (by kernel_rfl)) (fun _ _ _ h => h) (Or.inl ⟨by rfl, ?_⟩) ?_ ?_
 rotate_left
 · intro w'
   go_simp
   with_reducible rfl
 rotate_left
 · simp only [Act.put, zA, zZ, zS, i64_w, i32_w]
   rfl
 refine pure_ (i := 19) (N := some 65) (v := ?_) (a' := ?_) #[true, true, true, true, true, true, true, true, true, true, true, true, true, true, true, true, true, true, true, true, false, false, false, false, false, false, false, false, false, false, false, false, false, false, false, false, false, false, false, false, false, false] rfl rfl (any_of HT_.out (by kernel_rfl)) (fun _ _ _ h => h) (Or.inl ⟨by rfl, ?_⟩) ?_ ?_
 rotate_left
 · intro w'
   go_simp
   with_reducible rfl
 rotate_left
 · simp only [Act.put, zA, zZ, zS, i64_w, i32_w]
   rfl
 refine take_ (i := 20) (N := some 66) (v := ?_) (a' := ?_) #[true, true, true, true, true, true, true, true, true, true, true, true, true, true, true, true, true, true, true, true, true, false, false, false, false, false, false, false, false, false, false, false, false, false, false, false, false, false, false, false, false, false] rfl rfl (take_ofW HT_.out HW_.out (by kernel_rfl)) (fun _ _ _ h => h) (Or.inl ⟨by rfl, ?_⟩) hHeld ?_ ?_
 rotate_left
 · rintro w' ⟨s0, s1, s2, s3, s4, s5⟩
   go_simp
   with_reducible rfl
 rotate_left
 · simp only [Act.put, zA, zZ, zS, i64_w, i32_w]
   rfl
 refine take_ (i := 21) (N := some 67) (v := ?_) (a' := ?_) #[true, true, true, true, true, true, true, true, true, true, true, true, true, true, true, true, true, true, true, true, true, true, false, false, false, false, false, false, false, false, false, false, false, false, false, false, false, false, false, false, false, false] rfl rfl (take_ofW HT_.out HW_.out (by kernel_rfl)) (fun _ _ _ h => h) (Or.inl ⟨by rfl, ?_⟩) hHeld ?_ ?_
 rotate_left
 · rintro w' ⟨s0, s1, s2, s3, s4, s5⟩
   go_simp
   with_reducible rfl
 rotate_left
 · simp only [Act.put, zA, zZ, zS, i64_w, i32_w]
   rfl
 refine one_ (i := 22) (N := some 68) #[true, true, true, true, true, true, true, true, true, true, true, true, true, true, true, true, true, true, true, true, true, true, true, false, false, false, false, false, false, false, false, false, false, false, false, false, false, false, false, false, false, false] rfl rfl (one_of HT_.out (by kernel_rfl)) (by decide) (fun K hK => ?_)
 refine goes_ Tryd.func16 (by kernel_rfl) rfl #[.agg #[.string a0_0, .string a0_1, .slice A0_2 l0_2.length c0_2], .agg #[.string a1_0, .string a1_1, .slice A1_2 l1_2.length c1_2]] (by rfl) rfl rfl (by (try simp only [List.map_toArray, List.map_cons, List.map_nil]); first | done | rfl | (simp only [List.length_drop, List.length_take]; rfl)) ?_
 with_reducible refine (majordomoref06_Less.calls a0_0 a0_1 _ _ l0_2 a1_0 a1_1 _ _ l1_2 t339 _ ?side1 ?side2 ?side3 ?side4 A16.out).mono ?_
 (case side1 => repeat (first | exact (Kd.C_below HR0_2.out HB.out) | (with_reducible refine Kd.C_alloc ?_ _) | (with_reducible refine Kd.C_drewN ?_ _) | (with_reducible refine Kd.C_drew ?_)))
 (case side2 => exact HC0_2.out)
 (case side3 => repeat (first | exact (Kd.C_below HR1_2.out HB.out) | (with_reducible refine Kd.C_alloc ?_ _) | (with_reducible refine Kd.C_drewN ?_ _) | (with_reducible refine Kd.C_drew ?_)))
 (case side4 => exact HC1_2.out)
 rintro e w59 ⟨rfl, hb⟩
 refine ⟨_, rfl, ?_⟩
 have n0_ := As.mk (kB (g := gb328) (o := .cells #[.string a0_0, .string a0_1, .slice A0_2 l0_2.length c0_2] 24 (0, 0)) (by (with_reducible repeat (first | refine kN ?_ _ | refine kD ?_ | refine kA ?_ _)); exact BK328.out) hb)
 have n1_ := As.mk (kB (g := gb329) (o := .cells #[.string a1_0, .string a1_1, .slice A1_2 l1_2.length c1_2] 24 (0, 0)) (by (with_reducible repeat (first | refine kN ?_ _ | refine kD ?_ | refine kA ?_ _)); exact BK329.out) hb)
 have n2_ := As.mk (bT (by repeat (first | (with_reducible first | exact HB.out | apply bA | apply bN | apply bD | refine bS ?_ GE328.out | refine bS ?_ GE329.out) | exact HB.out)) hb)
 clear BK328
 clear BK329
 clear HB
 have BK328 := n0_
 have BK329 := n1_
 have HB := n2_
 clear n0_ n1_ n2_
 (try clear hb)
 (try clear hb2)
 (try clear hk)
 (try clear hi)
 refine hK.out _ _ ⟨(kC BK328.out 0).trans rfl, (kC BK328.out 1).trans rfl, (kC BK328.out 2).trans rfl, (kC BK329.out 0).trans rfl, (kC BK329.out 1).trans rfl, (kC BK329.out 2).trans rfl⟩ (fun hHeld => ?_)
 clear hK K
 refine norm_ (a' := ?_) ?_ ?_
 rotate_left
 · show Act.put _ (some 68) _ = _
   simp only [Act.put, zA, zZ, zS, i64_w, i32_w]
   rfl
 refine pure_ (i := 23) (N := some 69) (v := ?_) (a' := ?_) #[true, true, true, true, true, true, true, true, true, true, true, true, true, true, true, true, true, true, true, true, true, true, true, true, false, false, false, false, false, false, false, false, false, false, false, false, false, false, false, false, false, false] rfl rfl (any_of HT_.out (by kernel_rfl)) (fun _ _ _ h => h) (Or.inl ⟨by rfl, ?_⟩) ?_ ?_
 rotate_left
 · intro w'
   go_simp
   with_reducible rfl
 rotate_left
 · simp only [Act.put, zA, zZ, zS, i64_w, i32_w]
   rfl
 refine pure_ (i := 24) (N := some 70) (v := ?_) (a' := ?_) #[true, true, true, true, true, true, true, true, true, true, true, true, true, true, true, true, true, true, true, true, true, true, true, true, true, false, false, false, false, false, false, false, false, false, false, false, false, false, false, false, false, false] rfl rfl (any_of HT_.out (by kernel_rfl)) (fun _ _ _ h => h) (Or.inl ⟨by rfl, ?_⟩) ?_ ?_
 rotate_left
 · intro w'
   go_simp
   with_reducible rfl
 rotate_left
 · simp only [Act.put, zA, zZ, zS, i64_w, i32_w]
   rfl
 refine pure_ (i := 25) (N := some 71) (v := ?_) (a' := ?_) #[true, true, true, true, true, true, true, true, true, true, true, true, true, true, true, true, true, true, true, true, true, true, true, true, true, true, false, false, false, false, false, false, false, false, false, false, false, false, false, false, false, false] rfl rfl (any_of HT_.out (by kernel_rfl)) (fun _ _ _ h => h) (Or.inl ⟨by rfl, ?_⟩) ?_ ?_
 rotate_left
 · intro w'
   go_simp
   with_reducible rfl
 rotate_left
 · simp only [Act.put, zA, zZ, zS, i64_w, i32_w]
   rfl
 refine pure_ (i := 26) (N := some 72) (v := ?_) (a' := ?_) #[true, true, true, true, true, true, true, true, true, true, true, true, true, true, true, true, true, true, true, true, true, true, true, true, true, true, true, false, false, false, false, false, false, false, false, false, false, false, false, false, false, false] rfl rfl (any_of HT_.out (by kernel_rfl)) (fun _ _ _ h => h) (Or.inl ⟨by rfl, ?_⟩) ?_ ?_
 rotate_left
 · intro w'
   go_simp
   with_reducible rfl
 rotate_left
 · simp only [Act.put, zA, zZ, zS, i64_w, i32_w]
   rfl
 refine pure_ (i := 27) (N := some 73) (v := ?_) (a' := ?_) #[true, true, true, true, true, true, true, true, true, true, true, true, true, true, true, true, true, true, true, true, true, true, true, true, true, true, true, true, false, false, false, false, false, false, false, false, false, false, false, false, false, false] rfl rfl (any_of HT_.out (by kernel_rfl)) (fun _ _ _ h => h) (Or.inl ⟨by rfl, ?_⟩) ?_ ?_
 rotate_left
 · intro w'
   go_simp
   with_reducible rfl
 rotate_left
 · simp only [Act.put, zA, zZ, zS, i64_w, i32_w]
   rfl
 refine pure_ (i := 28) (N := some 74) (v := ?_) (a' := ?_) #[true, true, true, true, true, true, true, true, true, true, true, true, true, true, true, true, true, true, true, true, true, true, true, true, true, true, true, true, true, false, false, false, false, false, false, false, false, false, false, false, false, false] rfl rfl (any_of HT_.out (by kernel_rfl)) (fun _ _ _ h => h) (Or.inl ⟨by rfl, ?_⟩) ?_ ?_
 rotate_left
 · intro w'
   go_simp
   with_reducible rfl
 rotate_left
 · simp only [Act.put, zA, zZ, zS, i64_w, i32_w]
   rfl
 refine pure_ (i := 29) (N := some 75) (v := ?_) (a' := ?_) #[true, true, true, true, true, true, true, true, true, true, true, true, true, true, true, true, true, true, true, true, true, true, true, true, true, true, true, true, true, true, false, false, false, false, false, false, false, false, false, false, false, false] rfl rfl (any_of HT_.out (by kernel_rfl)) (fun _ _ _ h => h) (Or.inl ⟨by rfl, ?_⟩) ?_ ?_
 rotate_left
 · intro w'
   go_simp
   with_reducible rfl
 rotate_left
 · simp only [Act.put, zA, zZ, zS, i64_w, i32_w]
   rfl
 refine pure_ (i := 30) (N := some 76) (v := ?_) (a' := ?_) #[true, true, true, true, true, true, true, true, true, true, true, true, true, true, true, true, true, true, true, true, true, true, true, true, true, true, true, true, true, true, true, false, false, false, false, false, false, false, false, false, false, false] rfl rfl (any_of HT_.out (by kernel_rfl)) (fun _ _ _ h => h) (Or.inl ⟨by rfl, ?_⟩) ?_ ?_
 rotate_left
 · intro w'
   go_simp
   with_reducible rfl
 rotate_left
 · simp only [Act.put, zA, zZ, zS, i64_w, i32_w]
   rfl
 refine pure_ (i := 31) (N := some 77) (v := ?_) (a' := ?_) #[true, true, true, true, true, true, true, true, true, true, true, true, true, true, true, true, true, true, true, true, true, true, true, true, true, true, true, true, true, true, true, true, false, false, false, false, false, false, false, false, false, false] rfl rfl (any_of HT_.out (by kernel_rfl)) (fun _ _ _ h => h) (Or.inl ⟨by rfl, ?_⟩) ?_ ?_
 rotate_left
 · intro w'
   go_simp
   with_reducible rfl
 rotate_left
 · simp only [Act.put, zA, zZ, zS, i64_w, i32_w]
   rfl
 refine pure_ (i := 32) (N := some 78) (v := ?_) (a' := ?_) #[true, true, true, true, true, true, true, true, true, true, true, true, true, true, true, true, true, true, true, true, true, true, true, true, true, true, true, true, true, true, true, true, true, false, false, false, false, false, false, false, false, false] rfl rfl (any_of HT_.out (by kernel_rfl)) (fun _ _ _ h => h) (Or.inl ⟨by rfl, ?_⟩) ?_ ?_
 rotate_left
 · intro w'
   go_simp
   with_reducible rfl
 rotate_left
 · simp only [Act.put, zA, zZ, zS, i64_w, i32_w]
   rfl
 refine pure_ (i := 33) (N := some 79) (v := ?_) (a' := ?_) #[true, true, true, true, true, true, true, true, true, true, true, true, true, true, true, true, true, true, true, true, true, true, true, true, true, true, true, true, true, true, true, true, true, true, false, false, false, false, false, false, false, false] rfl rfl (any_of HT_.out (by kernel_rfl)) (fun _ _ _ h => h) (Or.inl ⟨by rfl, ?_⟩) ?_ ?_
 rotate_left
 · intro w'
   go_simp
   with_reducible rfl
 rotate_left
 · simp only [Act.put, zA, zZ, zS, i64_w, i32_w]
   rfl
 refine pure_ (i := 34) (N := some 80) (v := ?_) (a' := ?_) #[true, true, true, true, true, true, true, true, true, true, true, true, true, true, true, true, true, true, true, true, true, true, true, true, true, true, true, true, true, true, true, true, true, true, true, false, false, false, false, false, false, false] rfl rfl (any_of HT_.out (by kernel_rfl)) (fun _ _ _ h => h) (Or.inl ⟨by rfl, ?_⟩) ?_ ?_
 rotate_left
 · intro w'
   go_simp
   with_reducible rfl
 rotate_left
 · simp only [Act.put, zA, zZ, zS, i64_w, i32_w]
   rfl
 refine pure_ (i := 35) (N := some 81) (v := undef) (a' := ?_) #[true, true, true, true, true, true, true, true, true, true, true, true, true, true, true, true, true, true, true, true, true, true, true, true, true, true, true, true, true, true, true, true, true, true, true, true, false, false, false, false, false, false] rfl rfl (any_of HT_.out (by kernel_rfl)) (fun _ _ _ h => h) (Or.inr ⟨by rfl, rfl⟩) ?_ ?_
 rotate_left
 · simp only [Act.put, zA, zZ, zS, i64_w, i32_w]
   rfl
 refine pure_ (i := 36) (N := some 82) (v := ?_) (a' := ?_) #[true, true, true, true, true, true, true, true, true, true, true, true, true, true, true, true, true, true, true, true, true, true, true, true, true, true, true, true, true, true, true, true, true, true, true, true, true, false, false, false, false, false] rfl rfl (any_of HT_.out (by kernel_rfl)) (fun _ _ _ h => h) (Or.inl ⟨by rfl, ?_⟩) ?_ ?_
 rotate_left
 · intro w'
   go_simp
   with_reducible rfl
 rotate_left
 · simp only [Act.put, zA, zZ, zS, i64_w, i32_w]
   rfl
 refine pure_ (i := 37) (N := some 83) (v := ?_) (a' := ?_) #[true, true, true, true, true, true, true, true, true, true, true, true, true, true, true, true, true, true, true, true, true, true, true, true, true, true, true, true, true, true, true, true, true, true, true, true, true, true, false, false, false, false] rfl rfl (any_of HT_.out (by kernel_rfl)) (fun _ _ _ h => h) (Or.inl ⟨by rfl, ?_⟩) ?_ ?_
 rotate_left
 · intro w'
   go_simp
   with_reducible rfl
 rotate_left
 · simp only [Act.put, zA, zZ, zS, i64_w, i32_w]
   rfl
 refine pure_ (i := 38) (N := some 84) (v := ?_) (a' := ?_) #[true, true, true, true, true, true, true, true, true, true, true, true, true, true, true, true, true, true, true, true, true, true, true, true, true, true, true, true, true, true, true, true, true, true, true, true, true, true, true, false, false, false] rfl rfl (any_of HT_.out (by kernel_rfl)) (fun _ _ _ h => h) (Or.inl ⟨by rfl, ?_⟩) ?_ ?_
 rotate_left
 · intro w'
   go_simp
   with_reducible rfl
 rotate_left
 · simp only [Act.put, zA, zZ, zS, i64_w, i32_w]
   rfl
 refine pure_ (i := 39) (N := some 85) (v := ?_) (a' := ?_) #[true, true, true, true, true, true, true, true, true, true, true, true, true, true, true, true, true, true, true, true, true, true, true, true, true, true, true, true, true, true, true, true, true, true, true, true, true, true, true, true, false, false] rfl rfl (any_of HT_.out (by kernel_rfl)) (fun _ _ _ h => h) (Or.inl ⟨by rfl, ?_⟩) ?_ ?_
 rotate_left
 · intro w'
   go_simp
   with_reducible rfl
 rotate_left
 · simp only [Act.put, zA, zZ, zS, i64_w, i32_w]
   rfl
 refine pure_ (i := 40) (N := some 86) (v := ?_) (a' := ?_) #[true, true, true, true, true, true, true, true, true, true, true, true, true, true, true, true, true, true, true, true, true, true, true, true, true, true, true, true, true, true, true, true, true, true, true, true, true, true, true, true, true, false] rfl rfl (any_of HT_.out (by kernel_rfl)) (fun _ _ _ h => h) (Or.inl ⟨by rfl, ?_⟩) ?_ ?_
 rotate_left
 · intro w'
   go_simp
   with_reducible rfl
 rotate_left
 · simp only [Act.put, zA, zZ, zS, i64_w, i32_w]
   rfl
 refine pure_ (i := 41) (N := some 6) (v := ?_) (a' := ?_) #[true, true, true, true, true, true, true, true, true, true, true, true, true, true, true, true, true, true, true, true, true, true, true, true, true, true, true, true, true, true, true, true, true, true, true, true, true, true, true, true, true, true] rfl rfl (any_of HT_.out (by kernel_rfl)) (fun _ _ _ h => h) (Or.inl ⟨by rfl, ?_⟩) ?_ ?_
 rotate_left
 · intro w'
   go_simp
   with_reducible rfl
 rotate_left
 · simp only [Act.put, zA, zZ, zS, i64_w, i32_w]
   rfl
 refine done_ (done_of HT_.out (by kernel_rfl)) ?_
 try go_wp2
 go_ret
 exact ⟨by first | rfl | (simp [errW_none, errW_some] <;> rfl) | (simp [*, errW_none, errW_some] <;> rfl), by repeat (first | (with_reducible first | exact HB.out | apply bA | apply bN | apply bD | refine bS ?_ GE328.out | refine bS ?_ GE329.out) | exact HB.out)⟩
end Go.Proofs.YtkgafkoopefghaaDoor.PA
end
