/- A part of this law; its conditions stand in the last text. -/
import Derived.Test.YtkgafkoopefghaaDoorRn29
import Derived.Test.YtkgafkoopefghaaDoorRn28
import Derived.Test.YtkgafkoopefghaaDoorRn27
section
namespace Go.Proofs.YtkgafkoopefghaaDoor.PA
open Go.RowKit Go.Proofs.YtkgafkoopefghaaDoorW.PrintWords Go.Proofs.YtkgafkoopefghaaDoorW.PrintLast Go.Proofs.YtkgafkoopefghaaDoorW.PrintMore
open Go.Proofs.YtkgafkoopefghaaDoor.Hk
attribute [local go_sem high] Go.Proofs.YtkgafkoopefghaaDoor.Hk.binOp_leq_not
attribute [local go_sem] max2_int min2_int max_two min_two max_three min_three max_four min_four
set_option linter.unusedVariables false
set_option linter.unusedSimpArgs false
set_option maxHeartbeats 8000000 in
set_option maxRecDepth 100000 in
theorem majordomolaw06_ResourceNames.calls_ne (k : Nat) (a0_0 : ByteArray) (a0_1 : ByteArray) (A0_2 : Option Addr) (c0_2 : Nat) (l0_2 : List (S34)) (a1_0 : ByteArray) (a1_1 : ByteArray) (A1_2 : Option Addr) (c1_2 : Nat) (l1_2 : List (S34)) (a2 : ByteArray) (r : Bool) (w : World) (hr0_2 : Kd.C k34 w A0_2 l0_2.length l0_2) (hc0_2 : l0_2.length ≤ c0_2) (hr1_2 : Kd.C k34 w A1_2 l1_2.length l1_2) (hc1_2 : l1_2.length ≤ c1_2) (h : majordomolaw06_ResourceNames.f k a0_0 a0_1 l0_2 a1_0 a1_1 l1_2 a2 = some r) (hU : UtfOk w) (hQ : ¬ (a0_0.toList = a1_0.toList)) (hr : r = true) :
 Calls Tryd.prog 6 #[.agg #[.string a0_0, .string a0_1, .slice A0_2 l0_2.length c0_2], .agg #[.string a1_0, .string a1_1, .slice A1_2 l1_2.length c1_2], .string a2] w fun e w' => e = .returned (.bool r) ∧ Below w.heap.size w w' := by
 have HEQ := As.mk hQ
 clear hQ
 have HRR := As.mk hr
 clear hr
 have HU := As.mk hU
 clear hU
 have hu24 := Tryd.underlying24
 have HR0_2 := As.mk hr0_2
 have HC0_2 := As.mk hc0_2
 clear hr0_2 hc0_2
 have HR1_2 := As.mk hr1_2
 have HC1_2 := As.mk hc1_2
 clear hr1_2 hc1_2
 have HB := As.mk (Below.refl w.heap.size w)
 have H : ((majordomolaw06_shown.f).bind fun t330 => ((resource_Get.f k a0_0 a0_1 l0_2 a2).bind fun bt331 => ((majordomoref06_Get.f k a0_0 a0_1 l0_2 a2).bind fun bt333 => ((resource_Less.f a0_0 a0_1 l0_2 a1_0 a1_1 l1_2).bind fun t335 => ((resource_Less.f a1_0 a1_1 l1_2 a0_0 a0_1 l0_2).bind fun t336 => (if a0_0.toList = a1_0.toList then (if t330 = true then (if bt331.1.toList = bt333.1.toList then (if (bt331.2 == bt333.2) = true then ((resource_Name.f a0_0 a0_1 l0_2).bind fun t337 => ((majordomoref06_Name.f a0_0 a0_1 l0_2).bind fun t338 => (if t337.toList = t338.toList then ((majordomoref06_Less.f a0_0 a0_1 l0_2 a1_0 a1_1 l1_2).bind fun t339 => (if (t335 == t339) = true then (if t335 = true then (if t336 = true then (some false) else (some (true == (!(a0_1.toList == a1_1.toList))))) else (some (t336 == (!(a0_1.toList == a1_1.toList))))) else (some false))) else (some false)))) else (some false)) else (some false)) else (some false)) else (if t330 = true then (if bt331.1.toList = bt333.1.toList then (if (bt331.2 == bt333.2) = true then ((resource_Name.f a0_0 a0_1 l0_2).bind fun t340 => ((majordomoref06_Name.f a0_0 a0_1 l0_2).bind fun t341 => (if t340.toList = t341.toList then ((majordomoref06_Less.f a0_0 a0_1 l0_2 a1_0 a1_1 l1_2).bind fun t342 => (if (t335 == t342) = true then (if t335 = true then (if t336 = true then (some false) else (some (true == (!false)))) else (some (t336 == (!false)))) else (some false))) else (some false)))) else (some false)) else (some false)) else (some false)))))))) = some r := h
 clear h
 replace H := Option.bind_eq_some_iff.mp H
 obtain ⟨t330, A40, H⟩ := H
 (try dsimp only at H)
 have A4 := As.mk A40
 clear A40
 replace H := Option.bind_eq_some_iff.mp H
 obtain ⟨⟨t331, t332⟩, A50, H⟩ := H
 (try dsimp only at H)
 have A5 := As.mk A50
 clear A50
 replace H := Option.bind_eq_some_iff.mp H
 obtain ⟨⟨t333, t334⟩, A60, H⟩ := H
 (try dsimp only at H)
 have A6 := As.mk A60
 clear A60
 replace H := Option.bind_eq_some_iff.mp H
 obtain ⟨t335, A70, H⟩ := H
 (try dsimp only at H)
 have A7 := As.mk A70
 clear A70
 replace H := Option.bind_eq_some_iff.mp H
 obtain ⟨t336, A80, H⟩ := H
 (try dsimp only at H)
 have A8 := As.mk A80
 clear A80
 have c9 : ¬ (a0_0.toList = a1_0.toList) := HEQ.out
 rw [if_neg c9] at H
 have c9b0 : (a0_0.toList == a1_0.toList) = false := beq_eq_false_iff_ne.mpr c9
 have c9b1 : (a0_0.toList != a1_0.toList) = true := bne_iff_ne.mpr c9
 by_cases c170 : t330 = true
 rotate_left
 · rw [if_neg c170] at H
   exact absurd ((Option.some.inj H).trans HRR.out) (by decide)
 subst c170
 rw [if_pos rfl] at H
 by_cases c171 : t331.toList = t333.toList
 rotate_left
 · rw [if_neg c171] at H
   exact absurd ((Option.some.inj H).trans HRR.out) (by decide)
 rw [if_pos c171] at H
 have c171b0 : (t331.toList == t333.toList) = true := beq_iff_eq.mpr c171
 have c171b1 : (t331.toList != t333.toList) = false := bne_eq_false_iff_eq.mpr c171
 clear c171
 by_cases c172 : (t332 == t334) = true
 rotate_left
 · rw [if_neg c172] at H
   exact absurd ((Option.some.inj H).trans HRR.out) (by decide)
 rw [if_pos c172] at H
 have c172b0 : (t332 == t334) = true := c172
 (try (have c172b1 : decide (t332 = t334) = true := by simpa using c172))
 (try (have c172b2 : (t332 == t334) = true := by simpa using c172))
 clear c172
 replace H := Option.bind_eq_some_iff.mp H
 obtain ⟨t340, A1730, H⟩ := H
 (try dsimp only at H)
 have A173 := As.mk A1730
 clear A1730
 replace H := Option.bind_eq_some_iff.mp H
 obtain ⟨t341, A1740, H⟩ := H
 (try dsimp only at H)
 have A174 := As.mk A1740
 clear A1740
 by_cases c175 : t340.toList = t341.toList
 rotate_left
 · rw [if_neg c175] at H
   exact absurd ((Option.some.inj H).trans HRR.out) (by decide)
 rw [if_pos c175] at H
 have c175b0 : (t340.toList == t341.toList) = true := beq_iff_eq.mpr c175
 have c175b1 : (t340.toList != t341.toList) = false := bne_eq_false_iff_eq.mpr c175
 clear c175
 replace H := Option.bind_eq_some_iff.mp H
 obtain ⟨t342, A1760, H⟩ := H
 (try dsimp only at H)
 have A176 := As.mk A1760
 clear A1760
 by_cases c177 : (t335 == t342) = true
 rotate_left
 · rw [if_neg c177] at H
   exact absurd ((Option.some.inj H).trans HRR.out) (by decide)
 rw [if_pos c177] at H
 have c177b0 : (t335 == t342) = true := c177
 (try (have c177b1 : decide (t335 = t342) = true := by simpa using c177))
 (try (have c177b2 : (t335 == t342) = true := by simpa using c177))
 clear c177
 by_cases c178 : t335 = true
 rotate_left
 · replace c178 := Bool.eq_false_iff.mpr c178
   subst c178
   rw [if_neg (show ¬ (false = true) by decide)] at H
   obtain rfl := Option.some.inj H
   go_enter Tryd.func6, Tryd.ntmps6
   try go_wp2_with (first | ((with_reducible refine gate_dst (N := 3) rfl ?_); refine box_event ?hg (N := 3) ?hd (cs := #[.string a0_0, .string a0_1, .slice A0_2 l0_2.length c0_2]) (t := 24) ?hr ?_; (case hd => rfl); (case hg => rfl); (case hr => first | (go_simp; done) | (go_simp; rfl)); intro gb328 hg w220 hbox hb; have n0_ := As.mk (bT (by repeat (first | (with_reducible first | exact HB.out | apply bA | apply bN | apply bD) | exact HB.out)) hb); have n1_ := As.mk (hbox); have n2_ := As.mk ((by rw [hg]; exact (bZ (by repeat (first | (with_reducible first | exact HB.out | apply bA | apply bN | apply bD) | exact HB.out))) : w.heap.size ≤ gb328)); have n3_ := As.mk ((by rw [hg]; exact (bZ (by repeat (first | (with_reducible first | exact HB.out | apply bA | apply bN | apply bD) | exact HB.out))) : w.heap.size ≤ gb328)); clear HB; have HB := n0_; have BK328 := n1_; have GW328 := n2_; have GE328 := n3_; clear n0_ n1_ n2_ n3_; clear hb hbox hg) | ((with_reducible refine gate_dst (N := 4) rfl ?_); refine box_event ?hg (N := 4) ?hd (cs := #[.string a1_0, .string a1_1, .slice A1_2 l1_2.length c1_2]) (t := 24) ?hr ?_; (case hd => rfl); (case hg => rfl); (case hr => first | (go_simp; done) | (go_simp; rfl)); intro gb329 hg w221 hbox hb; have n0_ := As.mk (kB (g := gb328) (o := .cells #[.string a0_0, .string a0_1, .slice A0_2 l0_2.length c0_2] 24 (0, 0)) (by (with_reducible repeat (first | refine kN ?_ _ | refine kD ?_ | refine kA ?_ _)); exact BK328.out) hb); have n1_ := As.mk (bT (by repeat (first | (with_reducible first | exact HB.out | apply bA | apply bN | apply bD | refine bS ?_ GE328.out) | exact HB.out)) hb); have n2_ := As.mk (hbox); have n3_ := As.mk ((by rw [hg]; exact (bZ (by repeat (first | (with_reducible first | exact HB.out | apply bA | apply bN | apply bD | refine bS ?_ GE328.out) | exact HB.out))) : w.heap.size ≤ gb329)); have n4_ := As.mk ((by rw [hg]; exact (bZ (by repeat (first | (with_reducible first | exact HB.out | apply bA | apply bN | apply bD | refine bS ?_ GE328.out) | exact HB.out))) : w.heap.size ≤ gb329)); have n5_ := As.mk ((by rw [hg]; exact Nat.ne_of_lt (blk_lt (g := gb328) (o := .cells #[.string a0_0, .string a0_1, .slice A0_2 l0_2.length c0_2] 24 (0, 0)) (by (with_reducible repeat (first | refine kN ?_ _ | refine kD ?_ | refine kA ?_ _)); exact BK328.out)) : gb328 ≠ gb329)); have n6_ := As.mk ((by rw [hg]; exact Nat.ne_of_gt (blk_lt (g := gb328) (o := .cells #[.string a0_0, .string a0_1, .slice A0_2 l0_2.length c0_2] 24 (0, 0)) (by (with_reducible repeat (first | refine kN ?_ _ | refine kD ?_ | refine kA ?_ _)); exact BK328.out)) : gb329 ≠ gb328)); clear BK328; clear HB; have BK328 := n0_; have HB := n1_; have BK329 := n2_; have GW329 := n3_; have GE329 := n4_; have NB328_329 := n5_; have NB329_328 := n6_; clear n0_ n1_ n2_ n3_ n4_ n5_ n6_; clear hb hbox hg) | ((with_reducible refine gate_callee (f := 7) rfl ?_); refine goesL_ (some 15) rfl rfl Tryd.func7 (by kernel_rfl) rfl #[] rfl (by (try simp only [List.map_toArray, List.map_cons, List.map_nil]); first | done | rfl | (simp only [List.length_drop, List.length_take]; rfl)) ?_; (with_reducible refine (majordomolaw06_shown.calls  true _ A4.out (UtfOk.of_below HU.out (by repeat (first | (with_reducible first | exact HB.out | apply bA | apply bN | apply bD | refine bS ?_ GE328.out | refine bS ?_ GE329.out) | exact HB.out)))).mono ?_); rintro e w222 ⟨rfl, hb⟩; refine ⟨_, rfl, ?_⟩; have n0_ := As.mk (kB (g := gb328) (o := .cells #[.string a0_0, .string a0_1, .slice A0_2 l0_2.length c0_2] 24 (0, 0)) (by (with_reducible repeat (first | refine kN ?_ _ | refine kD ?_ | refine kA ?_ _)); exact BK328.out) hb); have n1_ := As.mk (kB (g := gb329) (o := .cells #[.string a1_0, .string a1_1, .slice A1_2 l1_2.length c1_2] 24 (0, 0)) (by (with_reducible repeat (first | refine kN ?_ _ | refine kD ?_ | refine kA ?_ _)); exact BK329.out) hb); have n2_ := As.mk (bT (by repeat (first | (with_reducible first | exact HB.out | apply bA | apply bN | apply bD | refine bS ?_ GE328.out | refine bS ?_ GE329.out) | exact HB.out)) hb); clear BK328; clear BK329; clear HB; have BK328 := n0_; have BK329 := n1_; have HB := n2_; clear n0_ n1_ n2_; (try clear hb); (try clear hb2); (try clear hk); (try clear hi); have hnb223 := NB328_329.out; have hnc223 := NB329_328.out; have hcz224_0 : w222.cell? ⟨gb328, 0, none⟩ = some (.string a0_0) := (kC BK328.out 0).trans rfl; have hcz224_1 : w222.cell? ⟨gb328, 1, none⟩ = some (.string a0_1) := (kC BK328.out 1).trans rfl; have hcz224_2 : w222.cell? ⟨gb328, 2, none⟩ = some (.slice A0_2 l0_2.length c0_2) := (kC BK328.out 2).trans rfl; have hfz224_0 := kF BK328.out 0; have hfz224_1 := kF BK328.out 1; have hfz224_2 := kF BK328.out 2) | ((with_reducible refine gate_callee (f := 11) rfl ?_); refine goesL_ (some 19) rfl rfl Tryd.func11 (by kernel_rfl) rfl #[.agg #[.string a0_0, .string a0_1, .slice A0_2 l0_2.length c0_2], .string a2] rfl (by (try simp only [List.map_toArray, List.map_cons, List.map_nil]); first | done | rfl | (simp only [List.length_drop, List.length_take]; rfl)) ?_; (with_reducible refine (resource_Get.calls k a0_0 a0_1 _ _ l0_2 a2 t331 t332 _ ?side1 ?side2 A5.out).mono ?_); (case side1 => repeat (first | exact (Kd.C_below HR0_2.out HB.out) | (with_reducible refine Kd.C_alloc ?_ _) | (with_reducible refine Kd.C_drewN ?_ _) | (with_reducible refine Kd.C_drew ?_))); (case side2 => exact HC0_2.out); rintro e w225 ⟨rfl, hb⟩; refine ⟨_, rfl, ?_⟩; have n0_ := As.mk (kB (g := gb328) (o := .cells #[.string a0_0, .string a0_1, .slice A0_2 l0_2.length c0_2] 24 (0, 0)) (by (with_reducible repeat (first | refine kN ?_ _ | refine kD ?_ | refine kA ?_ _)); exact BK328.out) hb); have n1_ := As.mk (kB (g := gb329) (o := .cells #[.string a1_0, .string a1_1, .slice A1_2 l1_2.length c1_2] 24 (0, 0)) (by (with_reducible repeat (first | refine kN ?_ _ | refine kD ?_ | refine kA ?_ _)); exact BK329.out) hb); have n2_ := As.mk (bT (by repeat (first | (with_reducible first | exact HB.out | apply bA | apply bN | apply bD | refine bS ?_ GE328.out | refine bS ?_ GE329.out) | exact HB.out)) hb); clear BK328; clear BK329; clear HB; have BK328 := n0_; have BK329 := n1_; have HB := n2_; clear n0_ n1_ n2_; (try clear hb); (try clear hb2); (try clear hk); (try clear hi); have hcz226_0 : w225.cell? ⟨gb328, 0, none⟩ = some (.string a0_0) := (kC BK328.out 0).trans rfl; have hcz226_1 : w225.cell? ⟨gb328, 1, none⟩ = some (.string a0_1) := (kC BK328.out 1).trans rfl; have hcz226_2 : w225.cell? ⟨gb328, 2, none⟩ = some (.slice A0_2 l0_2.length c0_2) := (kC BK328.out 2).trans rfl; have hfz226_0 := kF BK328.out 0; have hfz226_1 := kF BK328.out 1; have hfz226_2 := kF BK328.out 2) | ((with_reducible refine gate_callee (f := 12) rfl ?_); refine goesL_ (some 25) rfl rfl Tryd.func12 (by kernel_rfl) rfl #[.agg #[.string a0_0, .string a0_1, .slice A0_2 l0_2.length c0_2], .string a2] rfl (by (try simp only [List.map_toArray, List.map_cons, List.map_nil]); first | done | rfl | (simp only [List.length_drop, List.length_take]; rfl)) ?_; (with_reducible refine (majordomoref06_Get.calls k a0_0 a0_1 _ _ l0_2 a2 t333 t334 _ ?side1 ?side2 A6.out).mono ?_); (case side1 => repeat (first | exact (Kd.C_below HR0_2.out HB.out) | (with_reducible refine Kd.C_alloc ?_ _) | (with_reducible refine Kd.C_drewN ?_ _) | (with_reducible refine Kd.C_drew ?_))); (case side2 => exact HC0_2.out); rintro e w227 ⟨rfl, hb⟩; refine ⟨_, rfl, ?_⟩; have n0_ := As.mk (kB (g := gb328) (o := .cells #[.string a0_0, .string a0_1, .slice A0_2 l0_2.length c0_2] 24 (0, 0)) (by (with_reducible repeat (first | refine kN ?_ _ | refine kD ?_ | refine kA ?_ _)); exact BK328.out) hb); have n1_ := As.mk (kB (g := gb329) (o := .cells #[.string a1_0, .string a1_1, .slice A1_2 l1_2.length c1_2] 24 (0, 0)) (by (with_reducible repeat (first | refine kN ?_ _ | refine kD ?_ | refine kA ?_ _)); exact BK329.out) hb); have n2_ := As.mk (bT (by repeat (first | (with_reducible first | exact HB.out | apply bA | apply bN | apply bD | refine bS ?_ GE328.out | refine bS ?_ GE329.out) | exact HB.out)) hb); clear BK328; clear BK329; clear HB; have BK328 := n0_; have BK329 := n1_; have HB := n2_; clear n0_ n1_ n2_; (try clear hb); (try clear hb2); (try clear hk); (try clear hi); have hcz228_0 : w227.cell? ⟨gb328, 0, none⟩ = some (.string a0_0) := (kC BK328.out 0).trans rfl; have hcz228_1 : w227.cell? ⟨gb328, 1, none⟩ = some (.string a0_1) := (kC BK328.out 1).trans rfl; have hcz228_2 : w227.cell? ⟨gb328, 2, none⟩ = some (.slice A0_2 l0_2.length c0_2) := (kC BK328.out 2).trans rfl; have hfz228_0 := kF BK328.out 0; have hfz228_1 := kF BK328.out 1; have hfz228_2 := kF BK328.out 2; have hcz229_0 : w227.cell? ⟨gb329, 0, none⟩ = some (.string a1_0) := (kC BK329.out 0).trans rfl; have hcz229_1 : w227.cell? ⟨gb329, 1, none⟩ = some (.string a1_1) := (kC BK329.out 1).trans rfl; have hcz229_2 : w227.cell? ⟨gb329, 2, none⟩ = some (.slice A1_2 l1_2.length c1_2) := (kC BK329.out 2).trans rfl; have hfz229_0 := kF BK329.out 0; have hfz229_1 := kF BK329.out 1; have hfz229_2 := kF BK329.out 2) | ((with_reducible refine gate_callee (f := 13) rfl ?_); refine goesL_ (some 30) rfl rfl Tryd.func13 (by kernel_rfl) rfl #[.agg #[.string a0_0, .string a0_1, .slice A0_2 l0_2.length c0_2], .agg #[.string a1_0, .string a1_1, .slice A1_2 l1_2.length c1_2]] rfl (by (try simp only [List.map_toArray, List.map_cons, List.map_nil]); first | done | rfl | (simp only [List.length_drop, List.length_take]; rfl)) ?_; (with_reducible refine (resource_Less.calls a0_0 a0_1 _ _ l0_2 a1_0 a1_1 _ _ l1_2 false _ ?side1 ?side2 ?side3 ?side4 A7.out).mono ?_); (case side1 => repeat (first | exact (Kd.C_below HR0_2.out HB.out) | (with_reducible refine Kd.C_alloc ?_ _) | (with_reducible refine Kd.C_drewN ?_ _) | (with_reducible refine Kd.C_drew ?_))); (case side2 => exact HC0_2.out); (case side3 => repeat (first | exact (Kd.C_below HR1_2.out HB.out) | (with_reducible refine Kd.C_alloc ?_ _) | (with_reducible refine Kd.C_drewN ?_ _) | (with_reducible refine Kd.C_drew ?_))); (case side4 => exact HC1_2.out); rintro e w230 ⟨rfl, hb⟩; refine ⟨_, rfl, ?_⟩; have n0_ := As.mk (kB (g := gb328) (o := .cells #[.string a0_0, .string a0_1, .slice A0_2 l0_2.length c0_2] 24 (0, 0)) (by (with_reducible repeat (first | refine kN ?_ _ | refine kD ?_ | refine kA ?_ _)); exact BK328.out) hb); have n1_ := As.mk (kB (g := gb329) (o := .cells #[.string a1_0, .string a1_1, .slice A1_2 l1_2.length c1_2] 24 (0, 0)) (by (with_reducible repeat (first | refine kN ?_ _ | refine kD ?_ | refine kA ?_ _)); exact BK329.out) hb); have n2_ := As.mk (bT (by repeat (first | (with_reducible first | exact HB.out | apply bA | apply bN | apply bD | refine bS ?_ GE328.out | refine bS ?_ GE329.out) | exact HB.out)) hb); clear BK328; clear BK329; clear HB; have BK328 := n0_; have BK329 := n1_; have HB := n2_; clear n0_ n1_ n2_; (try clear hb); (try clear hb2); (try clear hk); (try clear hi); have hcz231_0 : w230.cell? ⟨gb329, 0, none⟩ = some (.string a1_0) := (kC BK329.out 0).trans rfl; have hcz231_1 : w230.cell? ⟨gb329, 1, none⟩ = some (.string a1_1) := (kC BK329.out 1).trans rfl; have hcz231_2 : w230.cell? ⟨gb329, 2, none⟩ = some (.slice A1_2 l1_2.length c1_2) := (kC BK329.out 2).trans rfl; have hfz231_0 := kF BK329.out 0; have hfz231_1 := kF BK329.out 1; have hfz231_2 := kF BK329.out 2; have hcz232_0 : w230.cell? ⟨gb328, 0, none⟩ = some (.string a0_0) := (kC BK328.out 0).trans rfl; have hcz232_1 : w230.cell? ⟨gb328, 1, none⟩ = some (.string a0_1) := (kC BK328.out 1).trans rfl; have hcz232_2 : w230.cell? ⟨gb328, 2, none⟩ = some (.slice A0_2 l0_2.length c0_2) := (kC BK328.out 2).trans rfl; have hfz232_0 := kF BK328.out 0; have hfz232_1 := kF BK328.out 1; have hfz232_2 := kF BK328.out 2) | ((with_reducible refine gate_callee (f := 13) rfl ?_); refine goesL_ (some 33) rfl rfl Tryd.func13 (by kernel_rfl) rfl #[.agg #[.string a1_0, .string a1_1, .slice A1_2 l1_2.length c1_2], .agg #[.string a0_0, .string a0_1, .slice A0_2 l0_2.length c0_2]] rfl (by (try simp only [List.map_toArray, List.map_cons, List.map_nil]); first | done | rfl | (simp only [List.length_drop, List.length_take]; rfl)) ?_; (with_reducible refine (resource_Less.calls a1_0 a1_1 _ _ l1_2 a0_0 a0_1 _ _ l0_2 t336 _ ?side1 ?side2 ?side3 ?side4 A8.out).mono ?_); (case side1 => repeat (first | exact (Kd.C_below HR1_2.out HB.out) | (with_reducible refine Kd.C_alloc ?_ _) | (with_reducible refine Kd.C_drewN ?_ _) | (with_reducible refine Kd.C_drew ?_))); (case side2 => exact HC1_2.out); (case side3 => repeat (first | exact (Kd.C_below HR0_2.out HB.out) | (with_reducible refine Kd.C_alloc ?_ _) | (with_reducible refine Kd.C_drewN ?_ _) | (with_reducible refine Kd.C_drew ?_))); (case side4 => exact HC0_2.out); rintro e w233 ⟨rfl, hb⟩; refine ⟨_, rfl, ?_⟩; have n0_ := As.mk (kB (g := gb328) (o := .cells #[.string a0_0, .string a0_1, .slice A0_2 l0_2.length c0_2] 24 (0, 0)) (by (with_reducible repeat (first | refine kN ?_ _ | refine kD ?_ | refine kA ?_ _)); exact BK328.out) hb); have n1_ := As.mk (kB (g := gb329) (o := .cells #[.string a1_0, .string a1_1, .slice A1_2 l1_2.length c1_2] 24 (0, 0)) (by (with_reducible repeat (first | refine kN ?_ _ | refine kD ?_ | refine kA ?_ _)); exact BK329.out) hb); have n2_ := As.mk (bT (by repeat (first | (with_reducible first | exact HB.out | apply bA | apply bN | apply bD | refine bS ?_ GE328.out | refine bS ?_ GE329.out) | exact HB.out)) hb); clear BK328; clear BK329; clear HB; have BK328 := n0_; have BK329 := n1_; have HB := n2_; clear n0_ n1_ n2_; (try clear hb); (try clear hb2); (try clear hk); (try clear hi); have hcz234_0 : w233.cell? ⟨gb328, 0, none⟩ = some (.string a0_0) := (kC BK328.out 0).trans rfl; have hcz234_1 : w233.cell? ⟨gb328, 1, none⟩ = some (.string a0_1) := (kC BK328.out 1).trans rfl; have hcz234_2 : w233.cell? ⟨gb328, 2, none⟩ = some (.slice A0_2 l0_2.length c0_2) := (kC BK328.out 2).trans rfl; have hfz234_0 := kF BK328.out 0; have hfz234_1 := kF BK328.out 1; have hfz234_2 := kF BK328.out 2; have hcz235_0 : w233.cell? ⟨gb329, 0, none⟩ = some (.string a1_0) := (kC BK329.out 0).trans rfl; have hcz235_1 : w233.cell? ⟨gb329, 1, none⟩ = some (.string a1_1) := (kC BK329.out 1).trans rfl; have hcz235_2 : w233.cell? ⟨gb329, 2, none⟩ = some (.slice A1_2 l1_2.length c1_2) := (kC BK329.out 2).trans rfl; have hfz235_0 := kF BK329.out 0; have hfz235_1 := kF BK329.out 1; have hfz235_2 := kF BK329.out 2))
   have n0_ := As.mk (kD BK328.out)
   have n1_ := As.mk (kD BK329.out)
   have n2_ := As.mk (bD HB.out)
   clear BK328
   clear BK329
   clear HB
   have BK328 := n0_
   have BK329 := n1_
   have HB := n2_
   clear n0_ n1_ n2_
   refine start_ (n := 42) (S := fun w' => w'.cell? ⟨gb328, 0, none⟩ = some (.string a0_0) ∧ w'.cell? ⟨gb328, 1, none⟩ = some (.string a0_1) ∧ w'.cell? ⟨gb328, 2, none⟩ = some (.slice A0_2 l0_2.length c0_2) ∧ w'.cell? ⟨gb329, 0, none⟩ = some (.string a1_0) ∧ w'.cell? ⟨gb329, 1, none⟩ = some (.string a1_1) ∧ w'.cell? ⟨gb329, 2, none⟩ = some (.slice A1_2 l1_2.length c1_2)) (ds := []) #[false, false, false, false, false, false, false, false, false, false, false, false, false, false, false, false, false, false, false, false, false, false, false, false, false, false, false, false, false, false, false, false, false, false, false, false, false, false, false, false, false, false] (by kernel_rfl) rfl rfl ⟨(kC BK328.out 0).trans rfl, (kC BK328.out 1).trans rfl, (kC BK328.out 2).trans rfl, (kC BK329.out 0).trans rfl, (kC BK329.out 1).trans rfl, (kC BK329.out 2).trans rfl⟩ (fun hHeld => ?_); refine with_tabW majordomolaw06_ResourceNames.tab7 majordomolaw06_ResourceNames.bits7 (fun HT_ HW_ => ?_)
   generalize w233.drew = w236 at BK328 BK329 HB hHeld ⊢
   refine pure_ (i := 0) (N := some 46) (v := ?_) (a' := ?_) #[true, false, false, false, false, false, false, false, false, false, false, false, false, false, false, false, false, false, false, false, false, false, false, false, false, false, false, false, false, false, false, false, false, false, false, false, false, false, false, false, false, false] rfl rfl (any_of HT_.out (by kernel_rfl)) (fun _ _ _ h => h) (Or.inl ⟨by rfl, ?_⟩) ?_ ?_
   rotate_left
   · intro w'
     go_simp
     with_reducible rfl
   rotate_left
   · simp only [Act.put, zA, zZ, zS, i64_w, i32_w]
     rfl
   refine pure_ (i := 1) (N := some 47) (v := ?_) (a' := ?_) #[true, true, false, false, false, false, false, false, false, false, false, false, false, false, false, false, false, false, false, false, false, false, false, false, false, false, false, false, false, false, false, false, false, false, false, false, false, false, false, false, false, false] rfl rfl (any_of HT_.out (by kernel_rfl)) (fun _ _ _ h => h) (Or.inl ⟨by rfl, ?_⟩) ?_ ?_
   rotate_left
   · intro w'
     go_simp
     with_reducible rfl
   rotate_left
   · simp only [Act.put, zA, zZ, zS, i64_w, i32_w]
     rfl
   refine pure_ (i := 2) (N := some 48) (v := ?_) (a' := ?_) #[true, true, true, false, false, false, false, false, false, false, false, false, false, false, false, false, false, false, false, false, false, false, false, false, false, false, false, false, false, false, false, false, false, false, false, false, false, false, false, false, false, false] rfl rfl (any_of HT_.out (by kernel_rfl)) (fun _ _ _ h => h) (Or.inl ⟨by rfl, ?_⟩) ?_ ?_
   rotate_left
   · intro w'
     go_simp
     with_reducible rfl
   rotate_left
   · simp only [Act.put, zA, zZ, zS, i64_w, i32_w]
     rfl
   refine pure_ (i := 3) (N := some 49) (v := ?_) (a' := ?_) #[true, true, true, true, false, false, false, false, false, false, false, false, false, false, false, false, false, false, false, false, false, false, false, false, false, false, false, false, false, false, false, false, false, false, false, false, false, false, false, false, false, false] rfl rfl (any_of HT_.out (by kernel_rfl)) (fun _ _ _ h => h) (Or.inl ⟨by rfl, ?_⟩) ?_ ?_
   rotate_left
   · intro w'
     go_simp
     with_reducible rfl
   rotate_left
   · simp only [Act.put, zA, zZ, zS, i64_w, i32_w]
     rfl
   refine pure_ (i := 4) (N := some 50) (v := ?_) (a' := ?_) #[true, true, true, true, true, false, false, false, false, false, false, false, false, false, false, false, false, false, false, false, false, false, false, false, false, false, false, false, false, false, false, false, false, false, false, false, false, false, false, false, false, false] rfl rfl (any_of HT_.out (by kernel_rfl)) (fun _ _ _ h => h) (Or.inl ⟨by rfl, ?_⟩) ?_ ?_
   rotate_left
   · intro w'
     go_simp
     with_reducible rfl
   rotate_left
   · simp only [Act.put, zA, zZ, zS, i64_w, i32_w]
     rfl
   refine pure_ (i := 5) (N := some 51) (v := ?_) (a' := ?_) #[true, true, true, true, true, true, false, false, false, false, false, false, false, false, false, false, false, false, false, false, false, false, false, false, false, false, false, false, false, false, false, false, false, false, false, false, false, false, false, false, false, false] rfl rfl (any_of HT_.out (by kernel_rfl)) (fun _ _ _ h => h) (Or.inl ⟨by rfl, ?_⟩) ?_ ?_
   rotate_left
   · intro w'
     go_simp
     with_reducible rfl
   rotate_left
   · simp only [Act.put, zA, zZ, zS, i64_w, i32_w]
     rfl
   refine pure_ (i := 6) (N := some 52) (v := ?_) (a' := ?_) #[true, true, true, true, true, true, true, false, false, false, false, false, false, false, false, false, false, false, false, false, false, false, false, false, false, false, false, false, false, false, false, false, false, false, false, false, false, false, false, false, false, false] rfl rfl (any_of HT_.out (by kernel_rfl)) (fun _ _ _ h => h) (Or.inl ⟨by rfl, ?_⟩) ?_ ?_
   rotate_left
   · intro w'
     go_simp
     with_reducible rfl
   rotate_left
   · simp only [Act.put, zA, zZ, zS, i64_w, i32_w]
     rfl
   refine pure_ (i := 7) (N := some 53) (v := ?_) (a' := ?_) #[true, true, true, true, true, true, true, true, false, false, false, false, false, false, false, false, false, false, false, false, false, false, false, false, false, false, false, false, false, false, false, false, false, false, false, false, false, false, false, false, false, false] rfl rfl (any_of HT_.out (by kernel_rfl)) (fun _ _ _ h => h) (Or.inl ⟨by rfl, ?_⟩) ?_ ?_
   rotate_left
   · intro w'
     go_simp
     with_reducible rfl
   rotate_left
   · simp only [Act.put, zA, zZ, zS, i64_w, i32_w]
     rfl
   refine pure_ (i := 8) (N := some 54) (v := ?_) (a' := ?_) #[true, true, true, true, true, true, true, true, true, false, false, false, false, false, false, false, false, false, false, false, false, false, false, false, false, false, false, false, false, false, false, false, false, false, false, false, false, false, false, false, false, false] rfl rfl (any_of HT_.out (by kernel_rfl)) (fun _ _ _ h => h) (Or.inl ⟨by rfl, ?_⟩) ?_ ?_
   rotate_left
   · intro w'
     go_simp
     with_reducible rfl
   rotate_left
   · simp only [Act.put, zA, zZ, zS, i64_w, i32_w]
     rfl
   refine pure_ (i := 9) (N := some 55) (v := ?_) (a' := ?_) #[true, true, true, true, true, true, true, true, true, true, false, false, false, false, false, false, false, false, false, false, false, false, false, false, false, false, false, false, false, false, false, false, false, false, false, false, false, false, false, false, false, false] rfl rfl (any_of HT_.out (by kernel_rfl)) (fun _ _ _ h => h) (Or.inl ⟨by rfl, ?_⟩) ?_ ?_
   rotate_left
   · intro w'
     go_simp
     with_reducible rfl
   rotate_left
   · simp only [Act.put, zA, zZ, zS, i64_w, i32_w]
     rfl
   refine pure_ (i := 10) (N := some 56) (v := ?_) (a' := ?_) #[true, true, true, true, true, true, true, true, true, true, true, false, false, false, false, false, false, false, false, false, false, false, false, false, false, false, false, false, false, false, false, false, false, false, false, false, false, false, false, false, false, false] rfl rfl (any_of HT_.out (by kernel_rfl)) (fun _ _ _ h => h) (Or.inl ⟨by rfl, ?_⟩) ?_ ?_
   rotate_left
   · intro w'
     go_simp
     with_reducible rfl
   rotate_left
   · simp only [Act.put, zA, zZ, zS, i64_w, i32_w]
     rfl
   refine pure_ (i := 11) (N := some 57) (v := ?_) (a' := ?_) #[true, true, true, true, true, true, true, true, true, true, true, true, false, false, false, false, false, false, false, false, false, false, false, false, false, false, false, false, false, false, false, false, false, false, false, false, false, false, false, false, false, false] rfl rfl (any_of HT_.out (by kernel_rfl)) (fun _ _ _ h => h) (Or.inl ⟨by rfl, ?_⟩) ?_ ?_
   rotate_left
   · intro w'
     go_simp
     with_reducible rfl
   rotate_left
   · simp only [Act.put, zA, zZ, zS, i64_w, i32_w]
     rfl
   refine take_ (i := 12) (N := some 58) (v := ?_) (a' := ?_) #[true, true, true, true, true, true, true, true, true, true, true, true, true, false, false, false, false, false, false, false, false, false, false, false, false, false, false, false, false, false, false, false, false, false, false, false, false, false, false, false, false, false] rfl rfl (take_ofW HT_.out HW_.out (by kernel_rfl)) (fun _ _ _ h => h) (Or.inl ⟨by rfl, ?_⟩) hHeld ?_ ?_
   rotate_left
   · rintro w' ⟨s0, s1, s2, s3, s4, s5⟩
     go_simp
     with_reducible rfl
   rotate_left
   · simp only [Act.put, zA, zZ, zS, i64_w, i32_w]
     rfl
   refine take_ (i := 14) (N := some 60) (v := ?_) (a' := ?_) #[true, true, true, true, true, true, true, true, true, true, true, true, true, false, true, false, false, false, false, false, false, false, false, false, false, false, false, false, false, false, false, false, false, false, false, false, false, false, false, false, false, false] rfl rfl (take_ofW HT_.out HW_.out (by kernel_rfl)) (fun _ _ _ h => h) (Or.inl ⟨by rfl, ?_⟩) hHeld ?_ ?_
   rotate_left
   · rintro w' ⟨s0, s1, s2, s3, s4, s5⟩
     go_simp
     with_reducible rfl
   rotate_left
   · simp only [Act.put, zA, zZ, zS, i64_w, i32_w]
     rfl
   refine one_ (i := 13) (N := some 59) #[true, true, true, true, true, true, true, true, true, true, true, true, true, true, true, false, false, false, false, false, false, false, false, false, false, false, false, false, false, false, false, false, false, false, false, false, false, false, false, false, false, false] rfl rfl (one_of HT_.out (by kernel_rfl)) (by decide) (fun K hK => ?_)
   refine goes_ Tryd.func14 (by kernel_rfl) rfl #[.agg #[.string a0_0, .string a0_1, .slice A0_2 l0_2.length c0_2]] (by rfl) rfl rfl (by (try simp only [List.map_toArray, List.map_cons, List.map_nil]); first | done | rfl | (simp only [List.length_drop, List.length_take]; rfl)) ?_
   with_reducible refine (resource_Name.calls a0_0 a0_1 _ _ l0_2 t340 _ ?side1 ?side2 A173.out).mono ?_
   (case side1 => repeat (first | exact (Kd.C_below HR0_2.out HB.out) | (with_reducible refine Kd.C_alloc ?_ _) | (with_reducible refine Kd.C_drewN ?_ _) | (with_reducible refine Kd.C_drew ?_)))
   (case side2 => exact HC0_2.out)
   rintro e w237 ⟨rfl, hb⟩
   refine ⟨_, rfl, ?_⟩
   have n0_ := As.mk (kB (g := gb328) (o := .cells #[.string a0_0, .string a0_1, .slice A0_2 l0_2.length c0_2] 24 (0, 0)) (by (with_reducible repeat (first | refine kN ?_ _ | refine kD ?_ | refine kA ?_ _)); exact BK328.out) hb)
   have n1_ := As.mk (kB (g := gb329) (o := .cells #[.string a1_0, .string a1_1, .slice A1_2 l1_2.length c1_2] 24 (0, 0)) (by (with_reducible repeat (first | refine kN ?_ _ | refine kD ?_ | refine kA ?_ _)); exact BK329.out) hb)
   have n2_ := As.mk (bT (by repeat (first | (with_reducible first | exact HB.out | apply bA | apply bN | apply bD | refine bS ?_ GE328.out | refine bS ?_ GE329.out) | exact HB.out)) hb)
   clear BK328
   clear BK329
   clear HB
   have BK328 := n0_
   have BK329 := n1_
   have HB := n2_
   clear n0_ n1_ n2_
   (try clear hb)
   (try clear hb2)
   (try clear hk)
   (try clear hi)
   refine hK.out _ _ ⟨(kC BK328.out 0).trans rfl, (kC BK328.out 1).trans rfl, (kC BK328.out 2).trans rfl, (kC BK329.out 0).trans rfl, (kC BK329.out 1).trans rfl, (kC BK329.out 2).trans rfl⟩ (fun hHeld => ?_)
   clear hK K
   refine norm_ (a' := ?_) ?_ ?_
   rotate_left
   · show Act.put _ (some 59) _ = _
     simp only [Act.put, zA, zZ, zS, i64_w, i32_w]
     rfl
   refine one_ (i := 15) (N := some 61) #[true, true, true, true, true, true, true, true, true, true, true, true, true, true, true, true, false, false, false, false, false, false, false, false, false, false, false, false, false, false, false, false, false, false, false, false, false, false, false, false, false, false] rfl rfl (one_of HT_.out (by kernel_rfl)) (by decide) (fun K hK => ?_)
   refine goes_ Tryd.func15 (by kernel_rfl) rfl #[.agg #[.string a0_0, .string a0_1, .slice A0_2 l0_2.length c0_2]] (by rfl) rfl rfl (by (try simp only [List.map_toArray, List.map_cons, List.map_nil]); first | done | rfl | (simp only [List.length_drop, List.length_take]; rfl)) ?_
   with_reducible refine (majordomoref06_Name.calls a0_0 a0_1 _ _ l0_2 t341 _ ?side1 ?side2 A174.out).mono ?_
   (case side1 => repeat (first | exact (Kd.C_below HR0_2.out HB.out) | (with_reducible refine Kd.C_alloc ?_ _) | (with_reducible refine Kd.C_drewN ?_ _) | (with_reducible refine Kd.C_drew ?_)))
   (case side2 => exact HC0_2.out)
   rintro e w238 ⟨rfl, hb⟩
   refine ⟨_, rfl, ?_⟩
   have n0_ := As.mk (kB (g := gb328) (o := .cells #[.string a0_0, .string a0_1, .slice A0_2 l0_2.length c0_2] 24 (0, 0)) (by (with_reducible repeat (first | refine kN ?_ _ | refine kD ?_ | refine kA ?_ _)); exact BK328.out) hb)
   have n1_ := As.mk (kB (g := gb329) (o := .cells #[.string a1_0, .string a1_1, .slice A1_2 l1_2.length c1_2] 24 (0, 0)) (by (with_reducible repeat (first | refine kN ?_ _ | refine kD ?_ | refine kA ?_ _)); exact BK329.out) hb)
   have n2_ := As.mk (bT (by repeat (first | (with_reducible first | exact HB.out | apply bA | apply bN | apply bD | refine bS ?_ GE328.out | refine bS ?_ GE329.out) | exact HB.out)) hb)
   clear BK328
   clear BK329
   clear HB
   have BK328 := n0_
   have BK329 := n1_
   have HB := n2_
   clear n0_ n1_ n2_
   (try clear hb)
   (try clear hb2)
   (try clear hk)
   (try clear hi)
   refine hK.out _ _ ⟨(kC BK328.out 0).trans rfl, (kC BK328.out 1).trans rfl, (kC BK328.out 2).trans rfl, (kC BK329.out 0).trans rfl, (kC BK329.out 1).trans rfl, (kC BK329.out 2).trans rfl⟩ (fun hHeld => ?_)
   clear hK K
   refine norm_ (a' := ?_) ?_ ?_
   rotate_left
   · show Act.put _ (some 61) _ = _
     simp only [Act.put, zA, zZ, zS, i64_w, i32_w]
     rfl
   refine pure_ (i := 16) (N := some 62) (v := ?_) (a' := ?_) #[true, true, true, true, true, true, true, true, true, true, true, true, true, true, true, true, true, false, false, false, false, false, false, false, false, false, false, false, false, false, false, false, false, false, false, false, false, false, false, false, false, false] rfl rfl (any_of HT_.out (by kernel_rfl)) (fun _ _ _ h => h) (Or.inl ⟨by rfl, ?_⟩) ?_ ?_
   rotate_left
   · intro w'
     go_simp
     with_reducible rfl
   rotate_left
   · simp only [Act.put, zA, zZ, zS, i64_w, i32_w]
     rfl
   refine pure_ (i := 17) (N := some 63) (v := ?_) (a' := ?_) #[true, true, true, true, true, true, true, true, true, true, true, true, true, true, true, true, true, true, false, false, false, false, false, false, false, false, false, false, false, false, false, false, false, false, false, false, false, false, false, false, false, false] rfl rfl (any_of HT_.out (by kernel_rfl)) (fun _ _ _ h => h) (Or.inl ⟨by rfl, ?_⟩) ?_ ?_
   rotate_left
   · intro w'
     go_simp
     with_reducible rfl
   rotate_left
   · simp only [Act.put, zA, zZ, zS, i64_w, i32_w]
     rfl
   refine pure_ (i := 18) (N := some 64) (v := ?_) (a' := ?_) #[true, true, true, true, true, true, true, true, true, true, true, true, true, true, true, true, true, true, true, false, false, false, false, false, false, false, false, false, false, false, false, false, false, false, false, false, false, false, false, false, false, false] rfl rfl (any_of HT_.out (by kernel_rfl)) (fun _ _ _ h => h) (Or.inl ⟨by rfl, ?_⟩) ?_ ?_
   rotate_left
   · intro w'
     go_simp
     with_reducible rfl
   rotate_left
   · simp only [Act.put, zA, zZ, zS, i64_w, i32_w]
     rfl
   refine pure_ (i := 19) (N := some 65) (v := ?_) (a' := ?_) #[true, true, true, true, true, true, true, true, true, true, true, true, true, true, true, true, true, true, true, true, false, false, false, false, false, false, false, false, false, false, false, false, false, false, false, false, false, false, false, false, false, false] rfl rfl (any_of HT_.out (by kernel_rfl)) (fun _ _ _ h => h) (Or.inl ⟨by rfl, ?_⟩) ?_ ?_
   rotate_left
   · intro w'
     go_simp
     with_reducible rfl
   rotate_left
   · simp only [Act.put, zA, zZ, zS, i64_w, i32_w]
     rfl
   refine take_ (i := 20) (N := some 66) (v := ?_) (a' := ?_) #[true, true, true, true, true, true, true, true, true, true, true, true, true, true, true, true, true, true, true, true, true, false, false, false, false, false, false, false, false, false, false, false, false, false, false, false, false, false, false, false, false, false] rfl rfl (take_ofW HT_.out HW_.out (by kernel_rfl)) (fun _ _ _ h => h) (Or.inl ⟨by rfl, ?_⟩) hHeld ?_ ?_
   rotate_left
   · rintro w' ⟨s0, s1, s2, s3, s4, s5⟩
     go_simp
     with_reducible rfl
   rotate_left
   · simp only [Act.put, zA, zZ, zS, i64_w, i32_w]
     rfl
   refine take_ (i := 21) (N := some 67) (v := ?_) (a' := ?_) #[true, true, true, true, true, true, true, true, true, true, true, true, true, true, true, true, true, true, true, true, true, true, false, false, false, false, false, false, false, false, false, false, false, false, false, false, false, false, false, false, false, false] rfl rfl (take_ofW HT_.out HW_.out (by kernel_rfl)) (fun _ _ _ h => h) (Or.inl ⟨by rfl, ?_⟩) hHeld ?_ ?_
   rotate_left
   · rintro w' ⟨s0, s1, s2, s3, s4, s5⟩
     go_simp
     with_reducible rfl
   rotate_left
   · simp only [Act.put, zA, zZ, zS, i64_w, i32_w]
     rfl
   refine one_ (i := 22) (N := some 68) #[true, true, true, true, true, true, true, true, true, true, true, true, true, true, true, true, true, true, true, true, true, true, true, false, false, false, false, false, false, false, false, false, false, false, false, false, false, false, false, false, false, false] rfl rfl (one_of HT_.out (by kernel_rfl)) (by decide) (fun K hK => ?_)
   refine goes_ Tryd.func16 (by kernel_rfl) rfl #[.agg #[.string a0_0, .string a0_1, .slice A0_2 l0_2.length c0_2], .agg #[.string a1_0, .string a1_1, .slice A1_2 l1_2.length c1_2]] (by rfl) rfl rfl (by (try simp only [List.map_toArray, List.map_cons, List.map_nil]); first | done | rfl | (simp only [List.length_drop, List.length_take]; rfl)) ?_
   with_reducible refine (majordomoref06_Less.calls a0_0 a0_1 _ _ l0_2 a1_0 a1_1 _ _ l1_2 t342 _ ?side1 ?side2 ?side3 ?side4 A176.out).mono ?_
   (case side1 => repeat (first | exact (Kd.C_below HR0_2.out HB.out) | (with_reducible refine Kd.C_alloc ?_ _) | (with_reducible refine Kd.C_drewN ?_ _) | (with_reducible refine Kd.C_drew ?_)))
   (case side2 => exact HC0_2.out)
   (case side3 => repeat (first | exact (Kd.C_below HR1_2.out HB.out) | (with_reducible refine Kd.C_alloc ?_ _) | (with_reducible refine Kd.C_drewN ?_ _) | (with_reducible refine Kd.C_drew ?_)))
   (case side4 => exact HC1_2.out)
   rintro e w239 ⟨rfl, hb⟩
   refine ⟨_, rfl, ?_⟩
   have n0_ := As.mk (kB (g := gb328) (o := .cells #[.string a0_0, .string a0_1, .slice A0_2 l0_2.length c0_2] 24 (0, 0)) (by (with_reducible repeat (first | refine kN ?_ _ | refine kD ?_ | refine kA ?_ _)); exact BK328.out) hb)
   have n1_ := As.mk (kB (g := gb329) (o := .cells #[.string a1_0, .string a1_1, .slice A1_2 l1_2.length c1_2] 24 (0, 0)) (by (with_reducible repeat (first | refine kN ?_ _ | refine kD ?_ | refine kA ?_ _)); exact BK329.out) hb)
   have n2_ := As.mk (bT (by repeat (first | (with_reducible first | exact HB.out | apply bA | apply bN | apply bD | refine bS ?_ GE328.out | refine bS ?_ GE329.out) | exact HB.out)) hb)
   clear BK328
   clear BK329
   clear HB
   have BK328 := n0_
   have BK329 := n1_
   have HB := n2_
   clear n0_ n1_ n2_
   (try clear hb)
   (try clear hb2)
   (try clear hk)
   (try clear hi)
   refine hK.out _ _ ⟨(kC BK328.out 0).trans rfl, (kC BK328.out 1).trans rfl, (kC BK328.out 2).trans rfl, (kC BK329.out 0).trans rfl, (kC BK329.out 1).trans rfl, (kC BK329.out 2).trans rfl⟩ (fun hHeld => ?_)
   clear hK K
   refine norm_ (a' := ?_) ?_ ?_
   rotate_left
   · show Act.put _ (some 68) _ = _
     simp only [Act.put, zA, zZ, zS, i64_w, i32_w]
     rfl
   refine pure_ (i := 23) (N := some 69) (v := ?_) (a' := ?_) #[true, true, true, true, true, true, true, true, true, true, true, true, true, true, true, true, true, true, true, true, true, true, true, true, false, false, false, false, false, false, false, false, false, false, false, false, false, false, false, false, false, false] rfl rfl (any_of HT_.out (by kernel_rfl)) (fun _ _ _ h => h) (Or.inl ⟨by rfl, ?_⟩) ?_ ?_
   rotate_left
   · intro w'
     go_simp
     with_reducible rfl
   rotate_left
   · simp only [Act.put, zA, zZ, zS, i64_w, i32_w]
     rfl
   refine pure_ (i := 24) (N := some 70) (v := ?_) (a' := ?_) #[true, true, true, true, true, true, true, true, true, true, true, true, true, true, true, true, true, true, true, true, true, true, true, true, true, false, false, false, false, false, false, false, false, false, false, false, false, false, false, false, false, false] rfl rfl (any_of HT_.out (by kernel_rfl)) (fun _ _ _ h => h) (Or.inl ⟨by rfl, ?_⟩) ?_ ?_
   rotate_left
   · intro w'
     go_simp
     with_reducible rfl
   rotate_left
   · simp only [Act.put, zA, zZ, zS, i64_w, i32_w]
     rfl
   refine pure_ (i := 25) (N := some 71) (v := ?_) (a' := ?_) #[true, true, true, true, true, true, true, true, true, true, true, true, true, true, true, true, true, true, true, true, true, true, true, true, true, true, false, false, false, false, false, false, false, false, false, false, false, false, false, false, false, false] rfl rfl (any_of HT_.out (by kernel_rfl)) (fun _ _ _ h => h) (Or.inl ⟨by rfl, ?_⟩) ?_ ?_
   rotate_left
   · intro w'
     go_simp
     with_reducible rfl
   rotate_left
   · simp only [Act.put, zA, zZ, zS, i64_w, i32_w]
     rfl
   refine pure_ (i := 26) (N := some 72) (v := ?_) (a' := ?_) #[true, true, true, true, true, true, true, true, true, true, true, true, true, true, true, true, true, true, true, true, true, true, true, true, true, true, true, false, false, false, false, false, false, false, false, false, false, false, false, false, false, false] rfl rfl (any_of HT_.out (by kernel_rfl)) (fun _ _ _ h => h) (Or.inl ⟨by rfl, ?_⟩) ?_ ?_
   rotate_left
   · intro w'
     go_simp
     with_reducible rfl
   rotate_left
   · simp only [Act.put, zA, zZ, zS, i64_w, i32_w]
     rfl
   refine pure_ (i := 27) (N := some 73) (v := ?_) (a' := ?_) #[true, true, true, true, true, true, true, true, true, true, true, true, true, true, true, true, true, true, true, true, true, true, true, true, true, true, true, true, false, false, false, false, false, false, false, false, false, false, false, false, false, false] rfl rfl (any_of HT_.out (by kernel_rfl)) (fun _ _ _ h => h) (Or.inl ⟨by rfl, ?_⟩) ?_ ?_
   rotate_left
   · intro w'
     go_simp
     with_reducible rfl
   rotate_left
   · simp only [Act.put, zA, zZ, zS, i64_w, i32_w]
     rfl
   refine pure_ (i := 28) (N := some 74) (v := undef) (a' := ?_) #[true, true, true, true, true, true, true, true, true, true, true, true, true, true, true, true, true, true, true, true, true, true, true, true, true, true, true, true, true, false, false, false, false, false, false, false, false, false, false, false, false, false] rfl rfl (any_of HT_.out (by kernel_rfl)) (fun _ _ _ h => h) (Or.inr ⟨by rfl, rfl⟩) ?_ ?_
   rotate_left
   · simp only [Act.put, zA, zZ, zS, i64_w, i32_w]
     rfl
   refine pure_ (i := 29) (N := some 75) (v := ?_) (a' := ?_) #[true, true, true, true, true, true, true, true, true, true, true, true, true, true, true, true, true, true, true, true, true, true, true, true, true, true, true, true, true, true, false, false, false, false, false, false, false, false, false, false, false, false] rfl rfl (any_of HT_.out (by kernel_rfl)) (fun _ _ _ h => h) (Or.inl ⟨by rfl, ?_⟩) ?_ ?_
   rotate_left
   · intro w'
     go_simp
     with_reducible rfl
   rotate_left
   · simp only [Act.put, zA, zZ, zS, i64_w, i32_w]
     rfl
   refine pure_ (i := 30) (N := some 76) (v := ?_) (a' := ?_) #[true, true, true, true, true, true, true, true, true, true, true, true, true, true, true, true, true, true, true, true, true, true, true, true, true, true, true, true, true, true, true, false, false, false, false, false, false, false, false, false, false, false] rfl rfl (any_of HT_.out (by kernel_rfl)) (fun _ _ _ h => h) (Or.inl ⟨by rfl, ?_⟩) ?_ ?_
   rotate_left
   · intro w'
     go_simp
     with_reducible rfl
   rotate_left
   · simp only [Act.put, zA, zZ, zS, i64_w, i32_w]
     rfl
   refine pure_ (i := 31) (N := some 77) (v := ?_) (a' := ?_) #[true, true, true, true, true, true, true, true, true, true, true, true, true, true, true, true, true, true, true, true, true, true, true, true, true, true, true, true, true, true, true, true, false, false, false, false, false, false, false, false, false, false] rfl rfl (any_of HT_.out (by kernel_rfl)) (fun _ _ _ h => h) (Or.inl ⟨by rfl, ?_⟩) ?_ ?_
   rotate_left
   · intro w'
     go_simp
     with_reducible rfl
   rotate_left
   · simp only [Act.put, zA, zZ, zS, i64_w, i32_w]
     rfl
   refine pure_ (i := 32) (N := some 78) (v := ?_) (a' := ?_) #[true, true, true, true, true, true, true, true, true, true, true, true, true, true, true, true, true, true, true, true, true, true, true, true, true, true, true, true, true, true, true, true, true, false, false, false, false, false, false, false, false, false] rfl rfl (any_of HT_.out (by kernel_rfl)) (fun _ _ _ h => h) (Or.inl ⟨by rfl, ?_⟩) ?_ ?_
   rotate_left
   · intro w'
     go_simp
     with_reducible rfl
   rotate_left
   · simp only [Act.put, zA, zZ, zS, i64_w, i32_w]
     rfl
   refine pure_ (i := 33) (N := some 79) (v := ?_) (a' := ?_) #[true, true, true, true, true, true, true, true, true, true, true, true, true, true, true, true, true, true, true, true, true, true, true, true, true, true, true, true, true, true, true, true, true, true, false, false, false, false, false, false, false, false] rfl rfl (any_of HT_.out (by kernel_rfl)) (fun _ _ _ h => h) (Or.inl ⟨by rfl, ?_⟩) ?_ ?_
   rotate_left
   · intro w'
     go_simp
     with_reducible rfl
   rotate_left
   · simp only [Act.put, zA, zZ, zS, i64_w, i32_w]
     rfl
   refine pure_ (i := 34) (N := some 80) (v := ?_) (a' := ?_) #[true, true, true, true, true, true, true, true, true, true, true, true, true, true, true, true, true, true, true, true, true, true, true, true, true, true, true, true, true, true, true, true, true, true, true, false, false, false, false, false, false, false] rfl rfl (any_of HT_.out (by kernel_rfl)) (fun _ _ _ h => h) (Or.inl ⟨by rfl, ?_⟩) ?_ ?_
   rotate_left
   · intro w'
     go_simp
     with_reducible rfl
   rotate_left
   · simp only [Act.put, zA, zZ, zS, i64_w, i32_w]
     rfl
   refine pure_ (i := 35) (N := some 81) (v := ?_) (a' := ?_) #[true, true, true, true, true, true, true, true, true, true, true, true, true, true, true, true, true, true, true, true, true, true, true, true, true, true, true, true, true, true, true, true, true, true, true, true, false, false, false, false, false, false] rfl rfl (any_of HT_.out (by kernel_rfl)) (fun _ _ _ h => h) (Or.inl ⟨by rfl, ?_⟩) ?_ ?_
   rotate_left
   · intro w'
     go_simp
     with_reducible rfl
   rotate_left
   · simp only [Act.put, zA, zZ, zS, i64_w, i32_w]
     rfl
   refine pure_ (i := 36) (N := some 82) (v := ?_) (a' := ?_) #[true, true, true, true, true, true, true, true, true, true, true, true, true, true, true, true, true, true, true, true, true, true, true, true, true, true, true, true, true, true, true, true, true, true, true, true, true, false, false, false, false, false] rfl rfl (any_of HT_.out (by kernel_rfl)) (fun _ _ _ h => h) (Or.inl ⟨by rfl, ?_⟩) ?_ ?_
   rotate_left
   · intro w'
     go_simp
     with_reducible rfl
   rotate_left
   · simp only [Act.put, zA, zZ, zS, i64_w, i32_w]
     rfl
   refine pure_ (i := 37) (N := some 83) (v := ?_) (a' := ?_) #[true, true, true, true, true, true, true, true, true, true, true, true, true, true, true, true, true, true, true, true, true, true, true, true, true, true, true, true, true, true, true, true, true, true, true, true, true, true, false, false, false, false] rfl rfl (any_of HT_.out (by kernel_rfl)) (fun _ _ _ h => h) (Or.inl ⟨by rfl, ?_⟩) ?_ ?_
   rotate_left
   · intro w'
     go_simp
     with_reducible rfl
   rotate_left
   · simp only [Act.put, zA, zZ, zS, i64_w, i32_w]
     rfl
   refine pure_ (i := 38) (N := some 84) (v := ?_) (a' := ?_) #[true, true, true, true, true, true, true, true, true, true, true, true, true, true, true, true, true, true, true, true, true, true, true, true, true, true, true, true, true, true, true, true, true, true, true, true, true, true, true, false, false, false] rfl rfl (any_of HT_.out (by kernel_rfl)) (fun _ _ _ h => h) (Or.inl ⟨by rfl, ?_⟩) ?_ ?_
   rotate_left
   · intro w'
     go_simp
     with_reducible rfl
   rotate_left
   · simp only [Act.put, zA, zZ, zS, i64_w, i32_w]
     rfl
   refine pure_ (i := 39) (N := some 85) (v := ?_) (a' := ?_) #[true, true, true, true, true, true, true, true, true, true, true, true, true, true, true, true, true, true, true, true, true, true, true, true, true, true, true, true, true, true, true, true, true, true, true, true, true, true, true, true, false, false] rfl rfl (any_of HT_.out (by kernel_rfl)) (fun _ _ _ h => h) (Or.inl ⟨by rfl, ?_⟩) ?_ ?_
   rotate_left
   · intro w'
     go_simp
     with_reducible rfl
   rotate_left
   · simp only [Act.put, zA, zZ, zS, i64_w, i32_w]
     rfl
   refine pure_ (i := 40) (N := some 86) (v := ?_) (a' := ?_) #[true, true, true, true, true, true, true, true, true, true, true, true, true, true, true, true, true, true, true, true, true, true, true, true, true, true, true, true, true, true, true, true, true, true, true, true, true, true, true, true, true, false] rfl rfl (any_of HT_.out (by kernel_rfl)) (fun _ _ _ h => h) (Or.inl ⟨by rfl, ?_⟩) ?_ ?_
   rotate_left
   · intro w'
     go_simp
     with_reducible rfl
   rotate_left
   · simp only [Act.put, zA, zZ, zS, i64_w, i32_w]
     rfl
   refine pure_ (i := 41) (N := some 6) (v := ?_) (a' := ?_) #[true, true, true, true, true, true, true, true, true, true, true, true, true, true, true, true, true, true, true, true, true, true, true, true, true, true, true, true, true, true, true, true, true, true, true, true, true, true, true, true, true, true] rfl rfl (any_of HT_.out (by kernel_rfl)) (fun _ _ _ h => h) (Or.inl ⟨by rfl, ?_⟩) ?_ ?_
   rotate_left
   · intro w'
     go_simp
     with_reducible rfl
   rotate_left
   · simp only [Act.put, zA, zZ, zS, i64_w, i32_w]
     rfl
   refine done_ (done_of HT_.out (by kernel_rfl)) ?_
   try go_wp2
   go_ret
   exact ⟨by first | rfl | (simp [errW_none, errW_some] <;> rfl) | (simp [*, errW_none, errW_some] <;> rfl), by repeat (first | (with_reducible first | exact HB.out | apply bA | apply bN | apply bD | refine bS ?_ GE328.out | refine bS ?_ GE329.out) | exact HB.out)⟩
 subst c178
 rw [if_pos rfl] at H
 by_cases c179 : t336 = true
 · rw [if_pos c179] at H
   exact absurd ((Option.some.inj H).trans HRR.out) (by decide)
 replace c179 := Bool.eq_false_iff.mpr c179
 subst c179
 rw [if_neg (show ¬ (false = true) by decide)] at H
 obtain rfl := Option.some.inj H
 go_enter Tryd.func6, Tryd.ntmps6
 try go_wp2_with (first | ((with_reducible refine gate_dst (N := 3) rfl ?_); refine box_event ?hg (N := 3) ?hd (cs := #[.string a0_0, .string a0_1, .slice A0_2 l0_2.length c0_2]) (t := 24) ?hr ?_; (case hd => rfl); (case hg => rfl); (case hr => first | (go_simp; done) | (go_simp; rfl)); intro gb328 hg w200 hbox hb; have n0_ := As.mk (bT (by repeat (first | (with_reducible first | exact HB.out | apply bA | apply bN | apply bD) | exact HB.out)) hb); have n1_ := As.mk (hbox); have n2_ := As.mk ((by rw [hg]; exact (bZ (by repeat (first | (with_reducible first | exact HB.out | apply bA | apply bN | apply bD) | exact HB.out))) : w.heap.size ≤ gb328)); have n3_ := As.mk ((by rw [hg]; exact (bZ (by repeat (first | (with_reducible first | exact HB.out | apply bA | apply bN | apply bD) | exact HB.out))) : w.heap.size ≤ gb328)); clear HB; have HB := n0_; have BK328 := n1_; have GW328 := n2_; have GE328 := n3_; clear n0_ n1_ n2_ n3_; clear hb hbox hg) | ((with_reducible refine gate_dst (N := 4) rfl ?_); refine box_event ?hg (N := 4) ?hd (cs := #[.string a1_0, .string a1_1, .slice A1_2 l1_2.length c1_2]) (t := 24) ?hr ?_; (case hd => rfl); (case hg => rfl); (case hr => first | (go_simp; done) | (go_simp; rfl)); intro gb329 hg w201 hbox hb; have n0_ := As.mk (kB (g := gb328) (o := .cells #[.string a0_0, .string a0_1, .slice A0_2 l0_2.length c0_2] 24 (0, 0)) (by (with_reducible repeat (first | refine kN ?_ _ | refine kD ?_ | refine kA ?_ _)); exact BK328.out) hb); have n1_ := As.mk (bT (by repeat (first | (with_reducible first | exact HB.out | apply bA | apply bN | apply bD | refine bS ?_ GE328.out) | exact HB.out)) hb); have n2_ := As.mk (hbox); have n3_ := As.mk ((by rw [hg]; exact (bZ (by repeat (first | (with_reducible first | exact HB.out | apply bA | apply bN | apply bD | refine bS ?_ GE328.out) | exact HB.out))) : w.heap.size ≤ gb329)); have n4_ := As.mk ((by rw [hg]; exact (bZ (by repeat (first | (with_reducible first | exact HB.out | apply bA | apply bN | apply bD | refine bS ?_ GE328.out) | exact HB.out))) : w.heap.size ≤ gb329)); have n5_ := As.mk ((by rw [hg]; exact Nat.ne_of_lt (blk_lt (g := gb328) (o := .cells #[.string a0_0, .string a0_1, .slice A0_2 l0_2.length c0_2] 24 (0, 0)) (by (with_reducible repeat (first | refine kN ?_ _ | refine kD ?_ | refine kA ?_ _)); exact BK328.out)) : gb328 ≠ gb329)); have n6_ := As.mk ((by rw [hg]; exact Nat.ne_of_gt (blk_lt (g := gb328) (o := .cells #[.string a0_0, .string a0_1, .slice A0_2 l0_2.length c0_2] 24 (0, 0)) (by (with_reducible repeat (first | refine kN ?_ _ | refine kD ?_ | refine kA ?_ _)); exact BK328.out)) : gb329 ≠ gb328)); clear BK328; clear HB; have BK328 := n0_; have HB := n1_; have BK329 := n2_; have GW329 := n3_; have GE329 := n4_; have NB328_329 := n5_; have NB329_328 := n6_; clear n0_ n1_ n2_ n3_ n4_ n5_ n6_; clear hb hbox hg) | ((with_reducible refine gate_callee (f := 7) rfl ?_); refine goesL_ (some 15) rfl rfl Tryd.func7 (by kernel_rfl) rfl #[] rfl (by (try simp only [List.map_toArray, List.map_cons, List.map_nil]); first | done | rfl | (simp only [List.length_drop, List.length_take]; rfl)) ?_; (with_reducible refine (majordomolaw06_shown.calls  true _ A4.out (UtfOk.of_below HU.out (by repeat (first | (with_reducible first | exact HB.out | apply bA | apply bN | apply bD | refine bS ?_ GE328.out | refine bS ?_ GE329.out) | exact HB.out)))).mono ?_); rintro e w202 ⟨rfl, hb⟩; refine ⟨_, rfl, ?_⟩; have n0_ := As.mk (kB (g := gb328) (o := .cells #[.string a0_0, .string a0_1, .slice A0_2 l0_2.length c0_2] 24 (0, 0)) (by (with_reducible repeat (first | refine kN ?_ _ | refine kD ?_ | refine kA ?_ _)); exact BK328.out) hb); have n1_ := As.mk (kB (g := gb329) (o := .cells #[.string a1_0, .string a1_1, .slice A1_2 l1_2.length c1_2] 24 (0, 0)) (by (with_reducible repeat (first | refine kN ?_ _ | refine kD ?_ | refine kA ?_ _)); exact BK329.out) hb); have n2_ := As.mk (bT (by repeat (first | (with_reducible first | exact HB.out | apply bA | apply bN | apply bD | refine bS ?_ GE328.out | refine bS ?_ GE329.out) | exact HB.out)) hb); clear BK328; clear BK329; clear HB; have BK328 := n0_; have BK329 := n1_; have HB := n2_; clear n0_ n1_ n2_; (try clear hb); (try clear hb2); (try clear hk); (try clear hi); have hnb203 := NB328_329.out; have hnc203 := NB329_328.out; have hcz204_0 : w202.cell? ⟨gb328, 0, none⟩ = some (.string a0_0) := (kC BK328.out 0).trans rfl; have hcz204_1 : w202.cell? ⟨gb328, 1, none⟩ = some (.string a0_1) := (kC BK328.out 1).trans rfl; have hcz204_2 : w202.cell? ⟨gb328, 2, none⟩ = some (.slice A0_2 l0_2.length c0_2) := (kC BK328.out 2).trans rfl; have hfz204_0 := kF BK328.out 0; have hfz204_1 := kF BK328.out 1; have hfz204_2 := kF BK328.out 2) | ((with_reducible refine gate_callee (f := 11) rfl ?_); refine goesL_ (some 19) rfl rfl Tryd.func11 (by kernel_rfl) rfl #[.agg #[.string a0_0, .string a0_1, .slice A0_2 l0_2.length c0_2], .string a2] rfl (by (try simp only [List.map_toArray, List.map_cons, List.map_nil]); first | done | rfl | (simp only [List.length_drop, List.length_take]; rfl)) ?_; (with_reducible refine (resource_Get.calls k a0_0 a0_1 _ _ l0_2 a2 t331 t332 _ ?side1 ?side2 A5.out).mono ?_); (case side1 => repeat (first | exact (Kd.C_below HR0_2.out HB.out) | (with_reducible refine Kd.C_alloc ?_ _) | (with_reducible refine Kd.C_drewN ?_ _) | (with_reducible refine Kd.C_drew ?_))); (case side2 => exact HC0_2.out); rintro e w205 ⟨rfl, hb⟩; refine ⟨_, rfl, ?_⟩; have n0_ := As.mk (kB (g := gb328) (o := .cells #[.string a0_0, .string a0_1, .slice A0_2 l0_2.length c0_2] 24 (0, 0)) (by (with_reducible repeat (first | refine kN ?_ _ | refine kD ?_ | refine kA ?_ _)); exact BK328.out) hb); have n1_ := As.mk (kB (g := gb329) (o := .cells #[.string a1_0, .string a1_1, .slice A1_2 l1_2.length c1_2] 24 (0, 0)) (by (with_reducible repeat (first | refine kN ?_ _ | refine kD ?_ | refine kA ?_ _)); exact BK329.out) hb); have n2_ := As.mk (bT (by repeat (first | (with_reducible first | exact HB.out | apply bA | apply bN | apply bD | refine bS ?_ GE328.out | refine bS ?_ GE329.out) | exact HB.out)) hb); clear BK328; clear BK329; clear HB; have BK328 := n0_; have BK329 := n1_; have HB := n2_; clear n0_ n1_ n2_; (try clear hb); (try clear hb2); (try clear hk); (try clear hi); have hcz206_0 : w205.cell? ⟨gb328, 0, none⟩ = some (.string a0_0) := (kC BK328.out 0).trans rfl; have hcz206_1 : w205.cell? ⟨gb328, 1, none⟩ = some (.string a0_1) := (kC BK328.out 1).trans rfl; have hcz206_2 : w205.cell? ⟨gb328, 2, none⟩ = some (.slice A0_2 l0_2.length c0_2) := (kC BK328.out 2).trans rfl; have hfz206_0 := kF BK328.out 0; have hfz206_1 := kF BK328.out 1; have hfz206_2 := kF BK328.out 2) | ((with_reducible refine gate_callee (f := 12) rfl ?_); refine goesL_ (some 25) rfl rfl Tryd.func12 (by kernel_rfl) rfl #[.agg #[.string a0_0, .string a0_1, .slice A0_2 l0_2.length c0_2], .string a2] rfl (by (try simp only [List.map_toArray, List.map_cons, List.map_nil]); first | done | rfl | (simp only [List.length_drop, List.length_take]; rfl)) ?_; (with_reducible refine (majordomoref06_Get.calls k a0_0 a0_1 _ _ l0_2 a2 t333 t334 _ ?side1 ?side2 A6.out).mono ?_); (case side1 => repeat (first | exact (Kd.C_below HR0_2.out HB.out) | (with_reducible refine Kd.C_alloc ?_ _) | (with_reducible refine Kd.C_drewN ?_ _) | (with_reducible refine Kd.C_drew ?_))); (case side2 => exact HC0_2.out); rintro e w207 ⟨rfl, hb⟩; refine ⟨_, rfl, ?_⟩; have n0_ := As.mk (kB (g := gb328) (o := .cells #[.string a0_0, .string a0_1, .slice A0_2 l0_2.length c0_2] 24 (0, 0)) (by (with_reducible repeat (first | refine kN ?_ _ | refine kD ?_ | refine kA ?_ _)); exact BK328.out) hb); have n1_ := As.mk (kB (g := gb329) (o := .cells #[.string a1_0, .string a1_1, .slice A1_2 l1_2.length c1_2] 24 (0, 0)) (by (with_reducible repeat (first | refine kN ?_ _ | refine kD ?_ | refine kA ?_ _)); exact BK329.out) hb); have n2_ := As.mk (bT (by repeat (first | (with_reducible first | exact HB.out | apply bA | apply bN | apply bD | refine bS ?_ GE328.out | refine bS ?_ GE329.out) | exact HB.out)) hb); clear BK328; clear BK329; clear HB; have BK328 := n0_; have BK329 := n1_; have HB := n2_; clear n0_ n1_ n2_; (try clear hb); (try clear hb2); (try clear hk); (try clear hi); have hcz208_0 : w207.cell? ⟨gb328, 0, none⟩ = some (.string a0_0) := (kC BK328.out 0).trans rfl; have hcz208_1 : w207.cell? ⟨gb328, 1, none⟩ = some (.string a0_1) := (kC BK328.out 1).trans rfl; have hcz208_2 : w207.cell? ⟨gb328, 2, none⟩ = some (.slice A0_2 l0_2.length c0_2) := (kC BK328.out 2).trans rfl; have hfz208_0 := kF BK328.out 0; have hfz208_1 := kF BK328.out 1; have hfz208_2 := kF BK328.out 2; have hcz209_0 : w207.cell? ⟨gb329, 0, none⟩ = some (.string a1_0) := (kC BK329.out 0).trans rfl; have hcz209_1 : w207.cell? ⟨gb329, 1, none⟩ = some (.string a1_1) := (kC BK329.out 1).trans rfl; have hcz209_2 : w207.cell? ⟨gb329, 2, none⟩ = some (.slice A1_2 l1_2.length c1_2) := (kC BK329.out 2).trans rfl; have hfz209_0 := kF BK329.out 0; have hfz209_1 := kF BK329.out 1; have hfz209_2 := kF BK329.out 2) | ((with_reducible refine gate_callee (f := 13) rfl ?_); refine goesL_ (some 30) rfl rfl Tryd.func13 (by kernel_rfl) rfl #[.agg #[.string a0_0, .string a0_1, .slice A0_2 l0_2.length c0_2], .agg #[.string a1_0, .string a1_1, .slice A1_2 l1_2.length c1_2]] rfl (by (try simp only [List.map_toArray, List.map_cons, List.map_nil]); first | done | rfl | (simp only [List.length_drop, List.length_take]; rfl)) ?_; (with_reducible refine (resource_Less.calls a0_0 a0_1 _ _ l0_2 a1_0 a1_1 _ _ l1_2 true _ ?side1 ?side2 ?side3 ?side4 A7.out).mono ?_); (case side1 => repeat (first | exact (Kd.C_below HR0_2.out HB.out) | (with_reducible refine Kd.C_alloc ?_ _) | (with_reducible refine Kd.C_drewN ?_ _) | (with_reducible refine Kd.C_drew ?_))); (case side2 => exact HC0_2.out); (case side3 => repeat (first | exact (Kd.C_below HR1_2.out HB.out) | (with_reducible refine Kd.C_alloc ?_ _) | (with_reducible refine Kd.C_drewN ?_ _) | (with_reducible refine Kd.C_drew ?_))); (case side4 => exact HC1_2.out); rintro e w210 ⟨rfl, hb⟩; refine ⟨_, rfl, ?_⟩; have n0_ := As.mk (kB (g := gb328) (o := .cells #[.string a0_0, .string a0_1, .slice A0_2 l0_2.length c0_2] 24 (0, 0)) (by (with_reducible repeat (first | refine kN ?_ _ | refine kD ?_ | refine kA ?_ _)); exact BK328.out) hb); have n1_ := As.mk (kB (g := gb329) (o := .cells #[.string a1_0, .string a1_1, .slice A1_2 l1_2.length c1_2] 24 (0, 0)) (by (with_reducible repeat (first | refine kN ?_ _ | refine kD ?_ | refine kA ?_ _)); exact BK329.out) hb); have n2_ := As.mk (bT (by repeat (first | (with_reducible first | exact HB.out | apply bA | apply bN | apply bD | refine bS ?_ GE328.out | refine bS ?_ GE329.out) | exact HB.out)) hb); clear BK328; clear BK329; clear HB; have BK328 := n0_; have BK329 := n1_; have HB := n2_; clear n0_ n1_ n2_; (try clear hb); (try clear hb2); (try clear hk); (try clear hi); have hcz211_0 : w210.cell? ⟨gb329, 0, none⟩ = some (.string a1_0) := (kC BK329.out 0).trans rfl; have hcz211_1 : w210.cell? ⟨gb329, 1, none⟩ = some (.string a1_1) := (kC BK329.out 1).trans rfl; have hcz211_2 : w210.cell? ⟨gb329, 2, none⟩ = some (.slice A1_2 l1_2.length c1_2) := (kC BK329.out 2).trans rfl; have hfz211_0 := kF BK329.out 0; have hfz211_1 := kF BK329.out 1; have hfz211_2 := kF BK329.out 2; have hcz212_0 : w210.cell? ⟨gb328, 0, none⟩ = some (.string a0_0) := (kC BK328.out 0).trans rfl; have hcz212_1 : w210.cell? ⟨gb328, 1, none⟩ = some (.string a0_1) := (kC BK328.out 1).trans rfl; have hcz212_2 : w210.cell? ⟨gb328, 2, none⟩ = some (.slice A0_2 l0_2.length c0_2) := (kC BK328.out 2).trans rfl; have hfz212_0 := kF BK328.out 0; have hfz212_1 := kF BK328.out 1; have hfz212_2 := kF BK328.out 2) | ((with_reducible refine gate_callee (f := 13) rfl ?_); refine goesL_ (some 33) rfl rfl Tryd.func13 (by kernel_rfl) rfl #[.agg #[.string a1_0, .string a1_1, .slice A1_2 l1_2.length c1_2], .agg #[.string a0_0, .string a0_1, .slice A0_2 l0_2.length c0_2]] rfl (by (try simp only [List.map_toArray, List.map_cons, List.map_nil]); first | done | rfl | (simp only [List.length_drop, List.length_take]; rfl)) ?_; (with_reducible refine (resource_Less.calls a1_0 a1_1 _ _ l1_2 a0_0 a0_1 _ _ l0_2 false _ ?side1 ?side2 ?side3 ?side4 A8.out).mono ?_); (case side1 => repeat (first | exact (Kd.C_below HR1_2.out HB.out) | (with_reducible refine Kd.C_alloc ?_ _) | (with_reducible refine Kd.C_drewN ?_ _) | (with_reducible refine Kd.C_drew ?_))); (case side2 => exact HC1_2.out); (case side3 => repeat (first | exact (Kd.C_below HR0_2.out HB.out) | (with_reducible refine Kd.C_alloc ?_ _) | (with_reducible refine Kd.C_drewN ?_ _) | (with_reducible refine Kd.C_drew ?_))); (case side4 => exact HC0_2.out); rintro e w213 ⟨rfl, hb⟩; refine ⟨_, rfl, ?_⟩; have n0_ := As.mk (kB (g := gb328) (o := .cells #[.string a0_0, .string a0_1, .slice A0_2 l0_2.length c0_2] 24 (0, 0)) (by (with_reducible repeat (first | refine kN ?_ _ | refine kD ?_ | refine kA ?_ _)); exact BK328.out) hb); have n1_ := As.mk (kB (g := gb329) (o := .cells #[.string a1_0, .string a1_1, .slice A1_2 l1_2.length c1_2] 24 (0, 0)) (by (with_reducible repeat (first | refine kN ?_ _ | refine kD ?_ | refine kA ?_ _)); exact BK329.out) hb); have n2_ := As.mk (bT (by repeat (first | (with_reducible first | exact HB.out | apply bA | apply bN | apply bD | refine bS ?_ GE328.out | refine bS ?_ GE329.out) | exact HB.out)) hb); clear BK328; clear BK329; clear HB; have BK328 := n0_; have BK329 := n1_; have HB := n2_; clear n0_ n1_ n2_; (try clear hb); (try clear hb2); (try clear hk); (try clear hi); have hcz214_0 : w213.cell? ⟨gb328, 0, none⟩ = some (.string a0_0) := (kC BK328.out 0).trans rfl; have hcz214_1 : w213.cell? ⟨gb328, 1, none⟩ = some (.string a0_1) := (kC BK328.out 1).trans rfl; have hcz214_2 : w213.cell? ⟨gb328, 2, none⟩ = some (.slice A0_2 l0_2.length c0_2) := (kC BK328.out 2).trans rfl; have hfz214_0 := kF BK328.out 0; have hfz214_1 := kF BK328.out 1; have hfz214_2 := kF BK328.out 2; have hcz215_0 : w213.cell? ⟨gb329, 0, none⟩ = some (.string a1_0) := (kC BK329.out 0).trans rfl; have hcz215_1 : w213.cell? ⟨gb329, 1, none⟩ = some (.string a1_1) := (kC BK329.out 1).trans rfl; have hcz215_2 : w213.cell? ⟨gb329, 2, none⟩ = some (.slice A1_2 l1_2.length c1_2) := (kC BK329.out 2).trans rfl; have hfz215_0 := kF BK329.out 0; have hfz215_1 := kF BK329.out 1; have hfz215_2 := kF BK329.out 2))
 have n0_ := As.mk (kD BK328.out)
 have n1_ := As.mk (kD BK329.out)
 have n2_ := As.mk (bD HB.out)
 clear BK328
 clear BK329
 clear HB
 have BK328 := n0_
 have BK329 := n1_
 have HB := n2_
 clear n0_ n1_ n2_
 refine start_ (n := 42) (S := fun w' => w'.cell? ⟨gb328, 0, none⟩ = some (.string a0_0) ∧ w'.cell? ⟨gb328, 1, none⟩ = some (.string a0_1) ∧ w'.cell? ⟨gb328, 2, none⟩ = some (.slice A0_2 l0_2.length c0_2) ∧ w'.cell? ⟨gb329, 0, none⟩ = some (.string a1_0) ∧ w'.cell? ⟨gb329, 1, none⟩ = some (.string a1_1) ∧ w'.cell? ⟨gb329, 2, none⟩ = some (.slice A1_2 l1_2.length c1_2)) (ds := []) #[false, false, false, false, false, false, false, false, false, false, false, false, false, false, false, false, false, false, false, false, false, false, false, false, false, false, false, false, false, false, false, false, false, false, false, false, false, false, false, false, false, false] (by kernel_rfl) rfl rfl ⟨(kC BK328.out 0).trans rfl, (kC BK328.out 1).trans rfl, (kC BK328.out 2).trans rfl, (kC BK329.out 0).trans rfl, (kC BK329.out 1).trans rfl, (kC BK329.out 2).trans rfl⟩ (fun hHeld => ?_); refine with_tabW majordomolaw06_ResourceNames.tab7 majordomolaw06_ResourceNames.bits7 (fun HT_ HW_ => ?_)
 generalize w213.drew = w216 at BK328 BK329 HB hHeld ⊢
 refine pure_ (i := 0) (N := some 46) (v := ?_) (a' := ?_) #[true, false, false, false, false, false, false, false, false, false, false, false, false, false, false, false, false, false, false, false, false, false, false, false, false, false, false, false, false, false, false, false, false, false, false, false, false, false, false, false, false, false] rfl rfl (any_of HT_.out (by kernel_rfl)) (fun _ _ _ h => h) (Or.inl ⟨by rfl, ?_⟩) ?_ ?_
 rotate_left
 · intro w'
   go_simp
   with_reducible rfl
 rotate_left
 · simp only [Act.put, zA, zZ, zS, i64_w, i32_w]
   rfl
 refine pure_ (i := 1) (N := some 47) (v := ?_) (a' := ?_) #[true, true, false, false, false, false, false, false, false, false, false, false, false, false, false, false, false, false, false, false, false, false, false, false, false, false, false, false, false, false, false, false, false, false, false, false, false, false, false, false, false, false] rfl rfl (any_of HT_.out (by kernel_rfl)) (fun _ _ _ h => h) (Or.inl ⟨by rfl, ?_⟩) ?_ ?_
 rotate_left
 · intro w'
   go_simp
   with_reducible rfl
 rotate_left
 · simp only [Act.put, zA, zZ, zS, i64_w, i32_w]
   rfl
 refine pure_ (i := 2) (N := some 48) (v := ?_) (a' := ?_) #[true, true, true, false, false, false, false, false, false, false, false, false, false, false, false, false, false, false, false, false, false, false, false, false, false, false, false, false, false, false, false, false, false, false, false, false, false, false, false, false, false, false] rfl rfl (any_of HT_.out (by kernel_rfl)) (fun _ _ _ h => h) (Or.inl ⟨by rfl, ?_⟩) ?_ ?_
 rotate_left
 · intro w'
   go_simp
   with_reducible rfl
 rotate_left
 · simp only [Act.put, zA, zZ, zS, i64_w, i32_w]
   rfl
 refine pure_ (i := 3) (N := some 49) (v := ?_) (a' := ?_) #[true, true, true, true, false, false, false, false, false, false, false, false, false, false, false, false, false, false, false, false, false, false, false, false, false, false, false, false, false, false, false, false, false, false, false, false, false, false, false, false, false, false] rfl rfl (any_of HT_.out (by kernel_rfl)) (fun _ _ _ h => h) (Or.inl ⟨by rfl, ?_⟩) ?_ ?_
 rotate_left
 · intro w'
   go_simp
   with_reducible rfl
 rotate_left
 · simp only [Act.put, zA, zZ, zS, i64_w, i32_w]
   rfl
 refine pure_ (i := 4) (N := some 50) (v := ?_) (a' := ?_) #[true, true, true, true, true, false, false, false, false, false, false, false, false, false, false, false, false, false, false, false, false, false, false, false, false, false, false, false, false, false, false, false, false, false, false, false, false, false, false, false, false, false] rfl rfl (any_of HT_.out (by kernel_rfl)) (fun _ _ _ h => h) (Or.inl ⟨by rfl, ?_⟩) ?_ ?_
 rotate_left
 · intro w'
   go_simp
   with_reducible rfl
 rotate_left
 · simp only [Act.put, zA, zZ, zS, i64_w, i32_w]
   rfl
 refine pure_ (i := 5) (N := some 51) (v := ?_) (a' := ?_) #[true, true, true, true, true, true, false, false, false, false, false, false, false, false, false, false, false, false, false, false, false, false, false, false, false, false, false, false, false, false, false, false, false, false, false, false, false, false, false, false, false, false] rfl rfl (any_of HT_.out (by kernel_rfl)) (fun _ _ _ h => h) (Or.inl ⟨by rfl, ?_⟩) ?_ ?_
 rotate_left
 · intro w'
   go_simp
   with_reducible rfl
 rotate_left
 · simp only [Act.put, zA, zZ, zS, i64_w, i32_w]
   rfl
 refine pure_ (i := 6) (N := some 52) (v := ?_) (a' := ?_) #[true, true, true, true, true, true, true, false, false, false, false, false, false, false, false, false, false, false, false, false, false, false, false, false, false, false, false, false, false, false, false, false, false, false, false, false, false, false, false, false, false, false] rfl rfl (any_of HT_.out (by kernel_rfl)) (fun _ _ _ h => h) (Or.inl ⟨by rfl, ?_⟩) ?_ ?_
 rotate_left
 · intro w'
   go_simp
   with_reducible rfl
 rotate_left
 · simp only [Act.put, zA, zZ, zS, i64_w, i32_w]
   rfl
 refine pure_ (i := 7) (N := some 53) (v := ?_) (a' := ?_) #[true, true, true, true, true, true, true, true, false, false, false, false, false, false, false, false, false, false, false, false, false, false, false, false, false, false, false, false, false, false, false, false, false, false, false, false, false, false, false, false, false, false] rfl rfl (any_of HT_.out (by kernel_rfl)) (fun _ _ _ h => h) (Or.inl ⟨by rfl, ?_⟩) ?_ ?_
 rotate_left
 · intro w'
   go_simp
   with_reducible rfl
 rotate_left
 · simp only [Act.put, zA, zZ, zS, i64_w, i32_w]
   rfl
 refine pure_ (i := 8) (N := some 54) (v := ?_) (a' := ?_) #[true, true, true, true, true, true, true, true, true, false, false, false, false, false, false, false, false, false, false, false, false, false, false, false, false, false, false, false, false, false, false, false, false, false, false, false, false, false, false, false, false, false] rfl rfl (any_of HT_.out (by kernel_rfl)) (fun _ _ _ h => h) (Or.inl ⟨by rfl, ?_⟩) ?_ ?_
 rotate_left
 · intro w'
   go_simp
   with_reducible rfl
 rotate_left
 · simp only [Act.put, zA, zZ, zS, i64_w, i32_w]
   rfl
 refine pure_ (i := 9) (N := some 55) (v := ?_) (a' := ?_) #[true, true, true, true, true, true, true, true, true, true, false, false, false, false, false, false, false, false, false, false, false, false, false, false, false, false, false, false, false, false, false, false, false, false, false, false, false, false, false, false, false, false] rfl rfl (any_of HT_.out (by kernel_rfl)) (fun _ _ _ h => h) (Or.inl ⟨by rfl, ?_⟩) ?_ ?_
 rotate_left
 · intro w'
   go_simp
   with_reducible rfl
 rotate_left
 · simp only [Act.put, zA, zZ, zS, i64_w, i32_w]
   rfl
 refine pure_ (i := 10) (N := some 56) (v := ?_) (a' := ?_) #[true, true, true, true, true, true, true, true, true, true, true, false, false, false, false, false, false, false, false, false, false, false, false, false, false, false, false, false, false, false, false, false, false, false, false, false, false, false, false, false, false, false] rfl rfl (any_of HT_.out (by kernel_rfl)) (fun _ _ _ h => h) (Or.inl ⟨by rfl, ?_⟩) ?_ ?_
 rotate_left
 · intro w'
   go_simp
   with_reducible rfl
 rotate_left
 · simp only [Act.put, zA, zZ, zS, i64_w, i32_w]
   rfl
 refine pure_ (i := 11) (N := some 57) (v := ?_) (a' := ?_) #[true, true, true, true, true, true, true, true, true, true, true, true, false, false, false, false, false, false, false, false, false, false, false, false, false, false, false, false, false, false, false, false, false, false, false, false, false, false, false, false, false, false] rfl rfl (any_of HT_.out (by kernel_rfl)) (fun _ _ _ h => h) (Or.inl ⟨by rfl, ?_⟩) ?_ ?_
 rotate_left
 · intro w'
   go_simp
   with_reducible rfl
 rotate_left
 · simp only [Act.put, zA, zZ, zS, i64_w, i32_w]
   rfl
 refine take_ (i := 12) (N := some 58) (v := ?_) (a' := ?_) #[true, true, true, true, true, true, true, true, true, true, true, true, true, false, false, false, false, false, false, false, false, false, false, false, false, false, false, false, false, false, false, false, false, false, false, false, false, false, false, false, false, false] rfl rfl (take_ofW HT_.out HW_.out (by kernel_rfl)) (fun _ _ _ h => h) (Or.inl ⟨by rfl, ?_⟩) hHeld ?_ ?_
 rotate_left
 · rintro w' ⟨s0, s1, s2, s3, s4, s5⟩
   go_simp
   with_reducible rfl
 rotate_left
 · simp only [Act.put, zA, zZ, zS, i64_w, i32_w]
   rfl
 refine take_ (i := 14) (N := some 60) (v := ?_) (a' := ?_) #[true, true, true, true, true, true, true, true, true, true, true, true, true, false, true, false, false, false, false, false, false, false, false, false, false, false, false, false, false, false, false, false, false, false, false, false, false, false, false, false, false, false] rfl rfl (take_ofW HT_.out HW_.out (by kernel_rfl)) (fun _ _ _ h => h) (Or.inl ⟨by rfl, ?_⟩) hHeld ?_ ?_
 rotate_left
 · rintro w' ⟨s0, s1, s2, s3, s4, s5⟩
   go_simp
   with_reducible rfl
 rotate_left
 · simp only [Act.put, zA, zZ, zS, i64_w, i32_w]
   rfl
 refine one_ (i := 13) (N := some 59) #[true, true, true, true, true, true, true, true, true, true, true, true, true, true, true, false, false, false, false, false, false, false, false, false, false, false, false, false, false, false, false, false, false, false, false, false, false, false, false, false, false, false] rfl rfl (one_of HT_.out (by kernel_rfl)) (by decide) (fun K hK => ?_)
 refine goes_ Tryd.func14 (by kernel_rfl) rfl #[.agg #[.string a0_0, .string a0_1, .slice A0_2 l0_2.length c0_2]] (by rfl) rfl rfl (by (try simp only [List.map_toArray, List.map_cons, List.map_nil]); first | done | rfl | (simp only [List.length_drop, List.length_take]; rfl)) ?_
 with_reducible refine (resource_Name.calls a0_0 a0_1 _ _ l0_2 t340 _ ?side1 ?side2 A173.out).mono ?_
 (case side1 => repeat (first | exact (Kd.C_below HR0_2.out HB.out) | (with_reducible refine Kd.C_alloc ?_ _) | (with_reducible refine Kd.C_drewN ?_ _) | (with_reducible refine Kd.C_drew ?_)))
 (case side2 => exact HC0_2.out)
 rintro e w217 ⟨rfl, hb⟩
 refine ⟨_, rfl, ?_⟩
 have n0_ := As.mk (kB (g := gb328) (o := .cells #[.string a0_0, .string a0_1, .slice A0_2 l0_2.length c0_2] 24 (0, 0)) (by (with_reducible repeat (first | refine kN ?_ _ | refine kD ?_ | refine kA ?_ _)); exact BK328.out) hb)
 have n1_ := As.mk (kB (g := gb329) (o := .cells #[.string a1_0, .string a1_1, .slice A1_2 l1_2.length c1_2] 24 (0, 0)) (by (with_reducible repeat (first | refine kN ?_ _ | refine kD ?_ | refine kA ?_ _)); exact BK329.out) hb)
 have n2_ := As.mk (bT (by repeat (first | (with_reducible first | exact HB.out | apply bA | apply bN | apply bD | refine bS ?_ GE328.out | refine bS ?_ GE329.out) | exact HB.out)) hb)
 clear BK328
 clear BK329
 clear HB
 have BK328 := n0_
 have BK329 := n1_
 have HB := n2_
 clear n0_ n1_ n2_
 (try clear hb)
 (try clear hb2)
 (try clear hk)
 (try clear hi)
 refine hK.out _ _ ⟨(kC BK328.out 0).trans rfl, (kC BK328.out 1).trans rfl, (kC BK328.out 2).trans rfl, (kC BK329.out 0).trans rfl, (kC BK329.out 1).trans rfl, (kC BK329.out 2).trans rfl⟩ (fun hHeld => ?_)
 clear hK K
 refine norm_ (a' := ?_) ?_ ?_
 rotate_left
 · show Act.put _ (some 59) _ = _
   simp only [Act.put, zA, zZ, zS, i64_w, i32_w]
   rfl
 refine one_ (i := 15) (N := some 61) #[true, true, true, true, true, true, true, true, true, true, true, true, true, true, true, true, false, false, false, false, false, false, false, false, false, false, false, false, false, false, false, false, false, false, false, false, false, false, false, false, false, false] rfl rfl (one_of HT_.out (by kernel_rfl)) (by decide) (fun K hK => ?_)
 refine goes_ Tryd.func15 (by kernel_rfl) rfl #[.agg #[.string a0_0, .string a0_1, .slice A0_2 l0_2.length c0_2]] (by rfl) rfl rfl (by (try simp only [List.map_toArray, List.map_cons, List.map_nil]); first | done | rfl | (simp only [List.length_drop, List.length_take]; rfl)) ?_
 with_reducible refine (majordomoref06_Name.calls a0_0 a0_1 _ _ l0_2 t341 _ ?side1 ?side2 A174.out).mono ?_
 (case side1 => repeat (first | exact (Kd.C_below HR0_2.out HB.out) | (with_reducible refine Kd.C_alloc ?_ _) | (with_reducible refine Kd.C_drewN ?_ _) | (with_reducible refine Kd.C_drew ?_)))
 (case side2 => exact HC0_2.out)
 rintro e w218 ⟨rfl, hb⟩
 refine ⟨_, rfl, ?_⟩
 have n0_ := As.mk (kB (g := gb328) (o := .cells #[.string a0_0, .string a0_1, .slice A0_2 l0_2.length c0_2] 24 (0, 0)) (by (with_reducible repeat (first | refine kN ?_ _ | refine kD ?_ | refine kA ?_ _)); exact BK328.out) hb)
 have n1_ := As.mk (kB (g := gb329) (o := .cells #[.string a1_0, .string a1_1, .slice A1_2 l1_2.length c1_2] 24 (0, 0)) (by (with_reducible repeat (first | refine kN ?_ _ | refine kD ?_ | refine kA ?_ _)); exact BK329.out) hb)
 have n2_ := As.mk (bT (by repeat (first | (with_reducible first | exact HB.out | apply bA | apply bN | apply bD | refine bS ?_ GE328.out | refine bS ?_ GE329.out) | exact HB.out)) hb)
 clear BK328
 clear BK329
 clear HB
 have BK328 := n0_
 have BK329 := n1_
 have HB := n2_
 clear n0_ n1_ n2_
 (try clear hb)
 (try clear hb2)
 (try clear hk)
 (try clear hi)
 refine hK.out _ _ ⟨(kC BK328.out 0).trans rfl, (kC BK328.out 1).trans rfl, (kC BK328.out 2).trans rfl, (kC BK329.out 0).trans rfl, (kC BK329.out 1).trans rfl, (kC BK329.out 2).trans rfl⟩ (fun hHeld => ?_)
 clear hK K
 refine norm_ (a' := ?_) ?_ ?_
 rotate_left
 · show Act.put _ (some 61) _ = _
   simp only [Act.put, zA, zZ, zS, i64_w, i32_w]
   rfl
 refine pure_ (i := 16) (N := some 62) (v := ?_) (a' := ?_) #[true, true, true, true, true, true, true, true, true, true, true, true, true, true, true, true, true, false, false, false, false, false, false, false, false, false, false, false, false, false, false, false, false, false, false, false, false, false, false, false, false, false] rfl rfl (any_of HT_.out (by kernel_rfl)) (fun _ _ _ h => h) (Or.inl ⟨by rfl, ?_⟩) ?_ ?_
 rotate_left
 · intro w'
   go_simp
   with_reducible rfl
 rotate_left
 · simp only [Act.put, zA, zZ, zS, i64_w, i32_w]
   rfl
 refine pure_ (i := 17) (N := some 63) (v := ?_) (a' := ?_) #[true, true, true, true, true, true, true, true, true, true, true, true, true, true, true, true, true, true, false, false, false, false, false, false, false, false, false, false, false, false, false, false, false, false, false, false, false, false, false, false, false, false] rfl rfl (any_of HT_.out (by kernel_rfl)) (fun _ _ _ h => h) (Or.inl ⟨by rfl, ?_⟩) ?_ ?_
 rotate_left
 · intro w'
   go_simp
   with_reducible rfl
 rotate_left
 · simp only [Act.put, zA, zZ, zS, i64_w, i32_w]
   rfl
 refine pure_ (i := 18) (N := some 64) (v := ?_) (a' := ?_) #[true, true, true, true, true, true, true, true, true, true, true, true, true, true, true, true, true, true, true, false, false, false, false, false, false, false, false, false, false, false, false, false, false, false, false, false, false, false, false, false, false, false] rfl rfl (any_of HT_.out (by kernel_rfl)) (fun _ _ _ h => h) (Or.inl ⟨by rfl, ?_⟩) ?_ ?_
 rotate_left
 · intro w'
   go_simp
   with_reducible rfl
 rotate_left
 · simp only [Act.put, zA, zZ, zS, i64_w, i32_w]
   rfl
 refine pure_ (i := 19) (N := some 65) (v := ?_) (a' := ?_) #[true, true, true, true, true, true, true, true, true, true, true, true, true, true, true, true, true, true, true, true, false, false, false, false, false, false, false, false, false, false, false, false, false, false, false, false, false, false, false, false, false, false] rfl rfl (any_of HT_.out (by kernel_rfl)) (fun _ _ _ h => h) (Or.inl ⟨by rfl, ?_⟩) ?_ ?_
 rotate_left
 · intro w'
   go_simp
   with_reducible rfl
 rotate_left
 · simp only [Act.put, zA, zZ, zS, i64_w, i32_w]
   rfl
 refine take_ (i := 20) (N := some 66) (v := ?_) (a' := ?_) #[true, true, true, true, true, true, true, true, true, true, true, true, true, true, true, true, true, true, true, true, true, false, false, false, false, false, false, false, false, false, false, false, false, false, false, false, false, false, false, false, false, false] rfl rfl (take_ofW HT_.out HW_.out (by kernel_rfl)) (fun _ _ _ h => h) (Or.inl ⟨by rfl, ?_⟩) hHeld ?_ ?_
 rotate_left
 · rintro w' ⟨s0, s1, s2, s3, s4, s5⟩
   go_simp
   with_reducible rfl
 rotate_left
 · simp only [Act.put, zA, zZ, zS, i64_w, i32_w]
   rfl
 refine take_ (i := 21) (N := some 67) (v := ?_) (a' := ?_) #[true, true, true, true, true, true, true, true, true, true, true, true, true, true, true, true, true, true, true, true, true, true, false, false, false, false, false, false, false, false, false, false, false, false, false, false, false, false, false, false, false, false] rfl rfl (take_ofW HT_.out HW_.out (by kernel_rfl)) (fun _ _ _ h => h) (Or.inl ⟨by rfl, ?_⟩) hHeld ?_ ?_
 rotate_left
 · rintro w' ⟨s0, s1, s2, s3, s4, s5⟩
   go_simp
   with_reducible rfl
 rotate_left
 · simp only [Act.put, zA, zZ, zS, i64_w, i32_w]
   rfl
 refine one_ (i := 22) (N := some 68) #[true, true, true, true, true, true, true, true, true, true, true, true, true, true, true, true, true, true, true, true, true, true, true, false, false, false, false, false, false, false, false, false, false, false, false, false, false, false, false, false, false, false] rfl rfl (one_of HT_.out (by kernel_rfl)) (by decide) (fun K hK => ?_)
 refine goes_ Tryd.func16 (by kernel_rfl) rfl #[.agg #[.string a0_0, .string a0_1, .slice A0_2 l0_2.length c0_2], .agg #[.string a1_0, .string a1_1, .slice A1_2 l1_2.length c1_2]] (by rfl) rfl rfl (by (try simp only [List.map_toArray, List.map_cons, List.map_nil]); first | done | rfl | (simp only [List.length_drop, List.length_take]; rfl)) ?_
 with_reducible refine (majordomoref06_Less.calls a0_0 a0_1 _ _ l0_2 a1_0 a1_1 _ _ l1_2 t342 _ ?side1 ?side2 ?side3 ?side4 A176.out).mono ?_
 (case side1 => repeat (first | exact (Kd.C_below HR0_2.out HB.out) | (with_reducible refine Kd.C_alloc ?_ _) | (with_reducible refine Kd.C_drewN ?_ _) | (with_reducible refine Kd.C_drew ?_)))
 (case side2 => exact HC0_2.out)
 (case side3 => repeat (first | exact (Kd.C_below HR1_2.out HB.out) | (with_reducible refine Kd.C_alloc ?_ _) | (with_reducible refine Kd.C_drewN ?_ _) | (with_reducible refine Kd.C_drew ?_)))
 (case side4 => exact HC1_2.out)
 rintro e w219 ⟨rfl, hb⟩
 refine ⟨_, rfl, ?_⟩
 have n0_ := As.mk (kB (g := gb328) (o := .cells #[.string a0_0, .string a0_1, .slice A0_2 l0_2.length c0_2] 24 (0, 0)) (by (with_reducible repeat (first | refine kN ?_ _ | refine kD ?_ | refine kA ?_ _)); exact BK328.out) hb)
 have n1_ := As.mk (kB (g := gb329) (o := .cells #[.string a1_0, .string a1_1, .slice A1_2 l1_2.length c1_2] 24 (0, 0)) (by (with_reducible repeat (first | refine kN ?_ _ | refine kD ?_ | refine kA ?_ _)); exact BK329.out) hb)
 have n2_ := As.mk (bT (by repeat (first | (with_reducible first | exact HB.out | apply bA | apply bN | apply bD | refine bS ?_ GE328.out | refine bS ?_ GE329.out) | exact HB.out)) hb)
 clear BK328
 clear BK329
 clear HB
 have BK328 := n0_
 have BK329 := n1_
 have HB := n2_
 clear n0_ n1_ n2_
 (try clear hb)
 (try clear hb2)
 (try clear hk)
 (try clear hi)
 refine hK.out _ _ ⟨(kC BK328.out 0).trans rfl, (kC BK328.out 1).trans rfl, (kC BK328.out 2).trans rfl, (kC BK329.out 0).trans rfl, (kC BK329.out 1).trans rfl, (kC BK329.out 2).trans rfl⟩ (fun hHeld => ?_)
 clear hK K
 refine norm_ (a' := ?_) ?_ ?_
 rotate_left
 · show Act.put _ (some 68) _ = _
   simp only [Act.put, zA, zZ, zS, i64_w, i32_w]
   rfl
 refine pure_ (i := 23) (N := some 69) (v := ?_) (a' := ?_) #[true, true, true, true, true, true, true, true, true, true, true, true, true, true, true, true, true, true, true, true, true, true, true, true, false, false, false, false, false, false, false, false, false, false, false, false, false, false, false, false, false, false] rfl rfl (any_of HT_.out (by kernel_rfl)) (fun _ _ _ h => h) (Or.inl ⟨by rfl, ?_⟩) ?_ ?_
 rotate_left
 · intro w'
   go_simp
   with_reducible rfl
 rotate_left
 · simp only [Act.put, zA, zZ, zS, i64_w, i32_w]
   rfl
 refine pure_ (i := 24) (N := some 70) (v := ?_) (a' := ?_) #[true, true, true, true, true, true, true, true, true, true, true, true, true, true, true, true, true, true, true, true, true, true, true, true, true, false, false, false, false, false, false, false, false, false, false, false, false, false, false, false, false, false] rfl rfl (any_of HT_.out (by kernel_rfl)) (fun _ _ _ h => h) (Or.inl ⟨by rfl, ?_⟩) ?_ ?_
 rotate_left
 · intro w'
   go_simp
   with_reducible rfl
 rotate_left
 · simp only [Act.put, zA, zZ, zS, i64_w, i32_w]
   rfl
 refine pure_ (i := 25) (N := some 71) (v := ?_) (a' := ?_) #[true, true, true, true, true, true, true, true, true, true, true, true, true, true, true, true, true, true, true, true, true, true, true, true, true, true, false, false, false, false, false, false, false, false, false, false, false, false, false, false, false, false] rfl rfl (any_of HT_.out (by kernel_rfl)) (fun _ _ _ h => h) (Or.inl ⟨by rfl, ?_⟩) ?_ ?_
 rotate_left
 · intro w'
   go_simp
   with_reducible rfl
 rotate_left
 · simp only [Act.put, zA, zZ, zS, i64_w, i32_w]
   rfl
 refine pure_ (i := 26) (N := some 72) (v := ?_) (a' := ?_) #[true, true, true, true, true, true, true, true, true, true, true, true, true, true, true, true, true, true, true, true, true, true, true, true, true, true, true, false, false, false, false, false, false, false, false, false, false, false, false, false, false, false] rfl rfl (any_of HT_.out (by kernel_rfl)) (fun _ _ _ h => h) (Or.inl ⟨by rfl, ?_⟩) ?_ ?_
 rotate_left
 · intro w'
   go_simp
   with_reducible rfl
 rotate_left
 · simp only [Act.put, zA, zZ, zS, i64_w, i32_w]
   rfl
 refine pure_ (i := 27) (N := some 73) (v := ?_) (a' := ?_) #[true, true, true, true, true, true, true, true, true, true, true, true, true, true, true, true, true, true, true, true, true, true, true, true, true, true, true, true, false, false, false, false, false, false, false, false, false, false, false, false, false, false] rfl rfl (any_of HT_.out (by kernel_rfl)) (fun _ _ _ h => h) (Or.inl ⟨by rfl, ?_⟩) ?_ ?_
 rotate_left
 · intro w'
   go_simp
   with_reducible rfl
 rotate_left
 · simp only [Act.put, zA, zZ, zS, i64_w, i32_w]
   rfl
 refine pure_ (i := 28) (N := some 74) (v := ?_) (a' := ?_) #[true, true, true, true, true, true, true, true, true, true, true, true, true, true, true, true, true, true, true, true, true, true, true, true, true, true, true, true, true, false, false, false, false, false, false, false, false, false, false, false, false, false] rfl rfl (any_of HT_.out (by kernel_rfl)) (fun _ _ _ h => h) (Or.inl ⟨by rfl, ?_⟩) ?_ ?_
 rotate_left
 · intro w'
   go_simp
   with_reducible rfl
 rotate_left
 · simp only [Act.put, zA, zZ, zS, i64_w, i32_w]
   rfl
 refine pure_ (i := 29) (N := some 75) (v := ?_) (a' := ?_) #[true, true, true, true, true, true, true, true, true, true, true, true, true, true, true, true, true, true, true, true, true, true, true, true, true, true, true, true, true, true, false, false, false, false, false, false, false, false, false, false, false, false] rfl rfl (any_of HT_.out (by kernel_rfl)) (fun _ _ _ h => h) (Or.inl ⟨by rfl, ?_⟩) ?_ ?_
 rotate_left
 · intro w'
   go_simp
   with_reducible rfl
 rotate_left
 · simp only [Act.put, zA, zZ, zS, i64_w, i32_w]
   rfl
 refine pure_ (i := 30) (N := some 76) (v := ?_) (a' := ?_) #[true, true, true, true, true, true, true, true, true, true, true, true, true, true, true, true, true, true, true, true, true, true, true, true, true, true, true, true, true, true, true, false, false, false, false, false, false, false, false, false, false, false] rfl rfl (any_of HT_.out (by kernel_rfl)) (fun _ _ _ h => h) (Or.inl ⟨by rfl, ?_⟩) ?_ ?_
 rotate_left
 · intro w'
   go_simp
   with_reducible rfl
 rotate_left
 · simp only [Act.put, zA, zZ, zS, i64_w, i32_w]
   rfl
 refine pure_ (i := 31) (N := some 77) (v := ?_) (a' := ?_) #[true, true, true, true, true, true, true, true, true, true, true, true, true, true, true, true, true, true, true, true, true, true, true, true, true, true, true, true, true, true, true, true, false, false, false, false, false, false, false, false, false, false] rfl rfl (any_of HT_.out (by kernel_rfl)) (fun _ _ _ h => h) (Or.inl ⟨by rfl, ?_⟩) ?_ ?_
 rotate_left
 · intro w'
   go_simp
   with_reducible rfl
 rotate_left
 · simp only [Act.put, zA, zZ, zS, i64_w, i32_w]
   rfl
 refine pure_ (i := 32) (N := some 78) (v := ?_) (a' := ?_) #[true, true, true, true, true, true, true, true, true, true, true, true, true, true, true, true, true, true, true, true, true, true, true, true, true, true, true, true, true, true, true, true, true, false, false, false, false, false, false, false, false, false] rfl rfl (any_of HT_.out (by kernel_rfl)) (fun _ _ _ h => h) (Or.inl ⟨by rfl, ?_⟩) ?_ ?_
 rotate_left
 · intro w'
   go_simp
   with_reducible rfl
 rotate_left
 · simp only [Act.put, zA, zZ, zS, i64_w, i32_w]
   rfl
 refine pure_ (i := 33) (N := some 79) (v := ?_) (a' := ?_) #[true, true, true, true, true, true, true, true, true, true, true, true, true, true, true, true, true, true, true, true, true, true, true, true, true, true, true, true, true, true, true, true, true, true, false, false, false, false, false, false, false, false] rfl rfl (any_of HT_.out (by kernel_rfl)) (fun _ _ _ h => h) (Or.inl ⟨by rfl, ?_⟩) ?_ ?_
 rotate_left
 · intro w'
   go_simp
   with_reducible rfl
 rotate_left
 · simp only [Act.put, zA, zZ, zS, i64_w, i32_w]
   rfl
 refine pure_ (i := 34) (N := some 80) (v := ?_) (a' := ?_) #[true, true, true, true, true, true, true, true, true, true, true, true, true, true, true, true, true, true, true, true, true, true, true, true, true, true, true, true, true, true, true, true, true, true, true, false, false, false, false, false, false, false] rfl rfl (any_of HT_.out (by kernel_rfl)) (fun _ _ _ h => h) (Or.inl ⟨by rfl, ?_⟩) ?_ ?_
 rotate_left
 · intro w'
   go_simp
   with_reducible rfl
 rotate_left
 · simp only [Act.put, zA, zZ, zS, i64_w, i32_w]
   rfl
 refine pure_ (i := 35) (N := some 81) (v := undef) (a' := ?_) #[true, true, true, true, true, true, true, true, true, true, true, true, true, true, true, true, true, true, true, true, true, true, true, true, true, true, true, true, true, true, true, true, true, true, true, true, false, false, false, false, false, false] rfl rfl (any_of HT_.out (by kernel_rfl)) (fun _ _ _ h => h) (Or.inr ⟨by rfl, rfl⟩) ?_ ?_
 rotate_left
 · simp only [Act.put, zA, zZ, zS, i64_w, i32_w]
   rfl
 refine pure_ (i := 36) (N := some 82) (v := ?_) (a' := ?_) #[true, true, true, true, true, true, true, true, true, true, true, true, true, true, true, true, true, true, true, true, true, true, true, true, true, true, true, true, true, true, true, true, true, true, true, true, true, false, false, false, false, false] rfl rfl (any_of HT_.out (by kernel_rfl)) (fun _ _ _ h => h) (Or.inl ⟨by rfl, ?_⟩) ?_ ?_
 rotate_left
 · intro w'
   go_simp
   with_reducible rfl
 rotate_left
 · simp only [Act.put, zA, zZ, zS, i64_w, i32_w]
   rfl
 refine pure_ (i := 37) (N := some 83) (v := ?_) (a' := ?_) #[true, true, true, true, true, true, true, true, true, true, true, true, true, true, true, true, true, true, true, true, true, true, true, true, true, true, true, true, true, true, true, true, true, true, true, true, true, true, false, false, false, false] rfl rfl (any_of HT_.out (by kernel_rfl)) (fun _ _ _ h => h) (Or.inl ⟨by rfl, ?_⟩) ?_ ?_
 rotate_left
 · intro w'
   go_simp
   with_reducible rfl
 rotate_left
 · simp only [Act.put, zA, zZ, zS, i64_w, i32_w]
   rfl
 refine pure_ (i := 38) (N := some 84) (v := ?_) (a' := ?_) #[true, true, true, true, true, true, true, true, true, true, true, true, true, true, true, true, true, true, true, true, true, true, true, true, true, true, true, true, true, true, true, true, true, true, true, true, true, true, true, false, false, false] rfl rfl (any_of HT_.out (by kernel_rfl)) (fun _ _ _ h => h) (Or.inl ⟨by rfl, ?_⟩) ?_ ?_
 rotate_left
 · intro w'
   go_simp
   with_reducible rfl
 rotate_left
 · simp only [Act.put, zA, zZ, zS, i64_w, i32_w]
   rfl
 refine pure_ (i := 39) (N := some 85) (v := ?_) (a' := ?_) #[true, true, true, true, true, true, true, true, true, true, true, true, true, true, true, true, true, true, true, true, true, true, true, true, true, true, true, true, true, true, true, true, true, true, true, true, true, true, true, true, false, false] rfl rfl (any_of HT_.out (by kernel_rfl)) (fun _ _ _ h => h) (Or.inl ⟨by rfl, ?_⟩) ?_ ?_
 rotate_left
 · intro w'
   go_simp
   with_reducible rfl
 rotate_left
 · simp only [Act.put, zA, zZ, zS, i64_w, i32_w]
   rfl
 refine pure_ (i := 40) (N := some 86) (v := ?_) (a' := ?_) #[true, true, true, true, true, true, true, true, true, true, true, true, true, true, true, true, true, true, true, true, true, true, true, true, true, true, true, true, true, true, true, true, true, true, true, true, true, true, true, true, true, false] rfl rfl (any_of HT_.out (by kernel_rfl)) (fun _ _ _ h => h) (Or.inl ⟨by rfl, ?_⟩) ?_ ?_
 rotate_left
 · intro w'
   go_simp
   with_reducible rfl
 rotate_left
 · simp only [Act.put, zA, zZ, zS, i64_w, i32_w]
   rfl
 refine pure_ (i := 41) (N := some 6) (v := ?_) (a' := ?_) #[true, true, true, true, true, true, true, true, true, true, true, true, true, true, true, true, true, true, true, true, true, true, true, true, true, true, true, true, true, true, true, true, true, true, true, true, true, true, true, true, true, true] rfl rfl (any_of HT_.out (by kernel_rfl)) (fun _ _ _ h => h) (Or.inl ⟨by rfl, ?_⟩) ?_ ?_
 rotate_left
 · intro w'
   go_simp
   with_reducible rfl
 rotate_left
 · simp only [Act.put, zA, zZ, zS, i64_w, i32_w]
   rfl
 refine done_ (done_of HT_.out (by kernel_rfl)) ?_
 try go_wp2
 go_ret
 exact ⟨by first | rfl | (simp [errW_none, errW_some] <;> rfl) | (simp [*, errW_none, errW_some] <;> rfl), by repeat (first | (with_reducible first | exact HB.out | apply bA | apply bN | apply bD | refine bS ?_ GE328.out | refine bS ?_ GE329.out) | exact HB.out)⟩
end Go.Proofs.YtkgafkoopefghaaDoor.PA
end
section
set_option linter.unusedVariables false
set_option linter.unusedSimpArgs false
namespace Go.Proofs.YtkgafkoopefghaaDoor.PA
open Go.RowKit Go.Maps Go.WideMaps Go.Proofs.YtkgafkoopefghaaDoor.Hk Go.Proofs.YtkgafkoopefghaaDoorW.PrintWords Go.Proofs.YtkgafkoopefghaaDoorW.PrintLast
theorem refGet_from (a b n : ByteArray) (l : List S34) (hl : l.length ≤ 9223372036854775806) : ∀ (k i : Nat), i ≤ l.length → l.length < k + i → majordomoref06_Get.l0 k n i a b l = some (toldR (getS (l.drop i) n))
  | 0, i, hi, hk => by omega
  | k + 1, i, hi, hk => by
    unfold majordomoref06_Get.l0
    by_cases c : i < l.length
    · rw [if_pos (by omega), if_pos (by omega), List.drop_eq_getElem_cons c]
      have e : rd_T34 l (i : Int) = l[i] := by unfold rd_T34; rw [Int.toNat_natCast, List.getD_eq_getElem?_getD, List.getElem?_eq_getElem c]; rfl
      unfold getS
      rw [e]
      by_cases d : l[i].f0.toList = n.toList
      · rw [if_pos d, if_pos d]; rfl
      · rw [if_neg d, if_neg d]
        have : wrap64 ((i : Int) + 1) = ((i + 1 : Nat) : Int) := by unfold wrap64; omega
        rw [this]
        exact refGet_from a b n l hl k (i + 1) (by omega) (by omega)
    · rw [if_neg (by omega)]
      have : l.drop i = [] := List.drop_eq_nil_of_le (by omega)
      rw [this]; rfl
theorem refGet_f (a b n : ByteArray) (l : List S34) (hl : l.length ≤ 9223372036854775806) (k : Nat) (hk : l.length < k) : majordomoref06_Get.f k a b l n = some (toldR (getS l n)) := refGet_from a b n l hl k 0 (by omega) (by omega)
theorem law_names (a0 b0 : ByteArray) (A0 : Option Addr) (c0 : Nat) (l0 : List S34) (a1 b1 : ByteArray) (A1 : Option Addr) (c1 : Nat) (l1 : List S34) (nq : ByteArray) (w : World) (hr0 : Kd.C k34 w A0 l0.length l0) (hc0 : l0.length ≤ c0) (hr1 : Kd.C k34 w A1 l1.length l1) (hc1 : l1.length ≤ c1) (hU : UtfOk w) (h0 : l0.length ≤ 4294967296 ∧ a0.size ≤ 4294967296 ∧ b0.size ≤ 4294967296) :
    Calls Tryd.prog 6 #[(.agg #[.string a0, .string b0, .slice A0 l0.length c0]), (.agg #[.string a1, .string b1, .slice A1 l1.length c1]), .string nq] w fun e w' => e = .returned (.bool true) ∧ Below w.heap.size w w' := by
  have hg1 : resource_Get.f (l0.length + 1) a0 b0 l0 nq = some (toldR (getS l0 nq)) := get_k a0 b0 nq l0 (by omega) _ (by omega)
  have hg2 : majordomoref06_Get.f (l0.length + 1) a0 b0 l0 nq = some (toldR (getS l0 nq)) := refGet_f a0 b0 nq l0 (by omega) _ (by omega)
  obtain ⟨r, hr⟩ : ∃ r, toldR (getS l0 nq) = r := ⟨_, rfl⟩
  rw [hr] at hg1 hg2
  obtain ⟨v, is⟩ := r
  have z1 : (a0 ++ (⟨#[91]⟩ : ByteArray)).size = a0.size + 1 := by rw [ByteArray.size_append]; rfl
  have z2 : ((a0 ++ (⟨#[91]⟩ : ByteArray)) ++ b0).size = a0.size + 1 + b0.size := by rw [ByteArray.size_append, z1]
  have hn1 : resource_Name.f a0 b0 l0 = some (((a0 ++ (⟨#[91]⟩ : ByteArray)) ++ b0) ++ (⟨#[93]⟩ : ByteArray)) := by
    unfold resource_Name.f
    rw [if_pos (by omega), if_pos (by omega), if_pos (by omega)]
  have hn2 : majordomoref06_Name.f a0 b0 l0 = some (((a0 ++ (⟨#[91]⟩ : ByteArray)) ++ b0) ++ (⟨#[93]⟩ : ByteArray)) := by
    unfold majordomoref06_Name.f
    rw [if_pos (by omega), if_pos (by omega), if_pos (by omega)]
  have hlt : ∀ x y : List UInt8, x ≠ y → Op.bytesLess x y = !(Op.bytesLess y x) := fun x y h => by
    rw [← less_or_eq, beq_eq_false_iff_ne.2 h, Bool.or_false]
  have hir : ∀ x : List UInt8, Op.bytesLess x x = false := fun x => by
    rw [bytesLess_eq]
    exact decide_eq_false (List.lt_irrefl x)
  have hf : majordomolaw06_ResourceNames.f (l0.length + 1) a0 b0 l0 a1 b1 l1 nq = some true := by
    by_cases cT : a0.toList = a1.toList
    · by_cases cTi : b0.toList = b1.toList
      · have e2 : (b0.toList == b1.toList) = true := beq_iff_eq.2 cTi
        have hl1 : resource_Less.f a0 b0 l0 a1 b1 l1 = some false := by unfold resource_Less.f; rw [if_pos cT, cTi, hir]
        have hl2 : resource_Less.f a1 b1 l1 a0 b0 l0 = some false := by unfold resource_Less.f; rw [if_pos cT.symm, cTi, hir]
        have hl3 : majordomoref06_Less.f a0 b0 l0 a1 b1 l1 = some false := by unfold majordomoref06_Less.f; rw [cT, hir, if_neg (by decide), if_pos rfl, cTi, hir]
        simp only [majordomolaw06_ResourceNames.f, shown_true, hg1, hg2, hn1, hn2, hl1, hl2, hl3, Option.bind_some, beq_self_eq_true, if_true, if_pos cT, e2, Bool.not_true]
        first | done | rfl | (simp; done) | decide
      · have e2 : (b0.toList == b1.toList) = false := beq_eq_false_iff_ne.2 cTi
        cases hb : Op.bytesLess b0.toList b1.toList with
        | true =>
          have hl1 : resource_Less.f a0 b0 l0 a1 b1 l1 = some true := by unfold resource_Less.f; rw [if_pos cT, hb]
          have hl2 : resource_Less.f a1 b1 l1 a0 b0 l0 = some false := by unfold resource_Less.f; rw [if_pos cT.symm, hlt _ _ (Ne.symm cTi), hb]; rfl
          have hl3 : majordomoref06_Less.f a0 b0 l0 a1 b1 l1 = some true := by unfold majordomoref06_Less.f; rw [cT, hir, if_neg (by decide), if_pos rfl, hb]
          simp only [majordomolaw06_ResourceNames.f, shown_true, hg1, hg2, hn1, hn2, hl1, hl2, hl3, Option.bind_some, beq_self_eq_true, if_true, if_pos cT, e2, Bool.not_false, Bool.not_true, Bool.false_eq_true, if_false]
          first | done | rfl | (simp; done) | decide
        | false =>
          have hl1 : resource_Less.f a0 b0 l0 a1 b1 l1 = some false := by unfold resource_Less.f; rw [if_pos cT, hb]
          have hl2 : resource_Less.f a1 b1 l1 a0 b0 l0 = some true := by unfold resource_Less.f; rw [if_pos cT.symm, hlt _ _ (Ne.symm cTi), hb]; rfl
          have hl3 : majordomoref06_Less.f a0 b0 l0 a1 b1 l1 = some false := by unfold majordomoref06_Less.f; rw [cT, hir, if_neg (by decide), if_pos rfl, hb]
          simp only [majordomolaw06_ResourceNames.f, shown_true, hg1, hg2, hn1, hn2, hl1, hl2, hl3, Option.bind_some, beq_self_eq_true, if_true, if_pos cT, e2, Bool.not_false, Bool.not_true, Bool.false_eq_true, if_false]
          first | done | rfl | (simp; done) | decide
    · cases hb : Op.bytesLess a0.toList a1.toList with
      | true =>
        have hl1 : resource_Less.f a0 b0 l0 a1 b1 l1 = some true := by unfold resource_Less.f; rw [if_neg cT, hb]
        have hl2 : resource_Less.f a1 b1 l1 a0 b0 l0 = some false := by unfold resource_Less.f; rw [if_neg (Ne.symm cT), hlt _ _ (Ne.symm cT), hb]; rfl
        have hl3 : majordomoref06_Less.f a0 b0 l0 a1 b1 l1 = some true := by unfold majordomoref06_Less.f; rw [hb, if_pos rfl]
        simp only [majordomolaw06_ResourceNames.f, shown_true, hg1, hg2, hn1, hn2, hl1, hl2, hl3, Option.bind_some, beq_self_eq_true, if_true, if_neg cT, Bool.not_false, Bool.not_true, Bool.false_eq_true, if_false]
        first | done | rfl | (simp; done) | decide
      | false =>
        have hl1 : resource_Less.f a0 b0 l0 a1 b1 l1 = some false := by unfold resource_Less.f; rw [if_neg cT, hb]
        have hl2 : resource_Less.f a1 b1 l1 a0 b0 l0 = some true := by unfold resource_Less.f; rw [if_neg (Ne.symm cT), hlt _ _ (Ne.symm cT), hb]; rfl
        have hl3 : majordomoref06_Less.f a0 b0 l0 a1 b1 l1 = some false := by unfold majordomoref06_Less.f; rw [hb, if_neg (by decide), if_neg cT]
        simp only [majordomolaw06_ResourceNames.f, shown_true, hg1, hg2, hn1, hn2, hl1, hl2, hl3, Option.bind_some, beq_self_eq_true, if_true, if_neg cT, Bool.not_false, Bool.not_true, Bool.false_eq_true, if_false]
        first | done | rfl | (simp; done) | decide
  by_cases cT : a0.toList = a1.toList
  · exact majordomolaw06_ResourceNames.calls_eq _ a0 b0 A0 c0 l0 a1 b1 A1 c1 l1 nq true w hr0 hc0 hr1 hc1 hf hU cT rfl
  · exact majordomolaw06_ResourceNames.calls_ne _ a0 b0 A0 c0 l0 a1 b1 A1 c1 l1 nq true w hr0 hc0 hr1 hc1 hf hU cT rfl
end Go.Proofs.YtkgafkoopefghaaDoor.PA
end
