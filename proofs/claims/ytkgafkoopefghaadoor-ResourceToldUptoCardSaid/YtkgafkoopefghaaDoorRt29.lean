/- The law ResourceTold (chapter 06): to tell what would be so anyway changes nothing: true of every input whose reading is of bulk at most 1048576, and the input reads behind the call as it read before. Conditions: the statement's own bound, and its two tables of unicode/utf8 as the program's text lays them (tied by the card). -/
import Derived.Test.YtkgafkoopefghaaDoorRt27
import Derived.Test.YtkgafkoopefghaaDoorRt6
import Derived.Test.YtkgafkoopefghaaDoorRt12
import Derived.Test.YtkgafkoopefghaaDoorRt28
section
namespace Go.Proofs.YtkgafkoopefghaaDoor.PA
open Go.RowKit Go.Proofs.YtkgafkoopefghaaDoorW.PrintWords Go.Proofs.YtkgafkoopefghaaDoorW.PrintLast Go.Proofs.YtkgafkoopefghaaDoorW.PrintMore
open Go.Proofs.YtkgafkoopefghaaDoor.Hk
attribute [local go_sem high] Go.Proofs.YtkgafkoopefghaaDoor.Hk.binOp_leq_not
attribute [local go_sem] max2_int min2_int max_two min_two max_three min_three max_four min_four   -- for this text's walks alone
set_option linter.unusedVariables false
set_option linter.unusedSimpArgs false
attribute [local go_sem high] eqA34
mutual
def majordomolaw06_ResourceTold.j0 : Nat → Int → Bool → Bool → ByteArray → ByteArray → List (S34) → Option (Bool)
  | 0, _, _, _, _, _, _ => none
  | k + 1, x1, x5, x35, x356000, x356001, x356002 => if x35 = true then (some x5) else (if x1 < 0 then (majordomolaw06_ResourceTold.j1 k (wrap64 (-(wrap64 (x1 + 1)))) x356000 x356001 x356002) else (majordomolaw06_ResourceTold.j1 k x1 x356000 x356001 x356002))
def majordomolaw06_ResourceTold.j1 : Nat → Int → ByteArray → ByteArray → List (S34) → Option (Bool)
  | 0, _, _, _, _ => none
  | k + 1, x1, x356000, x356001, x356002 => if (x356002.length : Int) = 0 then (none) else (majordomolaw06_ResourceTold.l0 k (Int.tmod x1 (x356002.length : Int)) 0 x356000 x356001 x356002 x356000 x356001 ([] : List (S34)))
def majordomolaw06_ResourceTold.l0 : Nat → Int → Int → ByteArray → ByteArray → List (S34) → ByteArray → ByteArray → List (S34) → Option (Bool)
  | 0, _, _, _, _, _, _, _, _ => none
  | k + 1, x1, x9, x356000, x356001, x356002, x357000, x357001, x357002 => if x9 < (x356002.length : Int) then (if x9 = x1 then (majordomolaw06_ResourceTold.l0 k x1 (wrap64 (x9 + 1)) x356000 x356001 x356002 x357000 x357001 x357002) else (if 0 ≤ x9 then (if x357002.length < 4398046511104 then (majordomolaw06_ResourceTold.l0 k x1 (wrap64 (x9 + 1)) x356000 x356001 x356002 x357000 x357001 (x357002 ++ [(⟨(rd_T34 x356002 x9).f0, (rd_T34 x356002 x9).f1⟩ : S34)])) else (none)) else (none))) else ((resource_Full.f x357000 x357001 x357002).bind fun bt361 => (if bt361.2.2.2 = 0 then (if 0 ≤ x1 then (if x1 < (x356002.length : Int) then ((resource_Get.f k bt361.1 bt361.2.1 bt361.2.2.1 ((rd_T34 x356002 x1).f0)).bind fun bt369 => ((resource_Get.f k x356000 x356001 x356002 ((rd_T34 x356002 x1).f0)).bind fun bt372 => (if bt369.2 = true then (majordomolaw06_ResourceTold.j3 k (bt369.1.toList != bt372.1.toList) x356000 x356001 x356002 bt361.1 bt361.2.1 bt361.2.2.1) else (majordomolaw06_ResourceTold.j3 k true x356000 x356001 x356002 bt361.1 bt361.2.1 bt361.2.2.1)))) else (none)) else (none)) else (some (bt361.2.2.2 == 62))))
def majordomolaw06_ResourceTold.j3 : Nat → Bool → ByteArray → ByteArray → List (S34) → ByteArray → ByteArray → List (S34) → Option (Bool)
  | 0, _, _, _, _, _, _, _ => none
  | k + 1, x109, x356000, x356001, x356002, x368000, x368001, x368002 => if x109 = true then (some true) else (majordomolaw06_ResourceTold.l1 k ((x356002.length : Int) == (x368002.length : Int)) 0 x356000 x356001 x356002 x368000 x368001 x368002)
def majordomolaw06_ResourceTold.l1 : Nat → Bool → Int → ByteArray → ByteArray → List (S34) → ByteArray → ByteArray → List (S34) → Option (Bool)
  | 0, _, _, _, _, _, _, _, _ => none
  | k + 1, x16, x17, x356000, x356001, x356002, x368000, x368001, x368002 => if x17 < (x356002.length : Int) then (if x16 = true then (if 0 ≤ x17 then (if x17 < (x368002.length : Int) then (majordomolaw06_ResourceTold.l1 k ((((rd_T34 x356002 x17).f0).toList) == (((rd_T34 x368002 x17).f0).toList) && ((((rd_T34 x356002 x17).f1).toList) == (((rd_T34 x368002 x17).f1).toList))) (wrap64 (x17 + 1)) x356000 x356001 x356002 x368000 x368001 x368002) else (none)) else (none)) else (some x16)) else (some x16)
end
def majordomolaw06_ResourceTold.f (k : Nat) (a0_0 : ByteArray) (a0_1 : ByteArray) (l0_2 : List (S34)) (a1 : Int) : Option (Bool) := (majordomolaw06_shown.f).bind fun t348 => ((resource_Full.f a0_0 a0_1 l0_2).bind fun bt349 => (if t348 = true then (if bt349.2.2.2 = 0 then (majordomolaw06_ResourceTold.j0 k a1 t348 ((bt349.2.2.1.length : Int) == 0) bt349.1 bt349.2.1 bt349.2.2.1) else (majordomolaw06_ResourceTold.j0 k a1 t348 true bt349.1 bt349.2.1 bt349.2.2.1)) else (majordomolaw06_ResourceTold.j0 k a1 t348 true bt349.1 bt349.2.1 bt349.2.2.1)))
def majordomolaw06_ResourceTold.T13 : Bool × List (List Nat × List Nat) := (true, [([], []), ([0], [0]), ([], []), ([2], [2]), ([], []), ([3, 4], [3, 4]), ([5], [5]), ([6], [6]), ([1, 7], [1, 7]), ([0, 1, 2, 3, 4, 5, 6, 7, 8], []), ([9, 8, 8, 0, 1, 2, 3, 4, 5, 6, 7, 8], [8, 9])])
def majordomolaw06_ResourceTold.B13 : List Nat := [0, 1, 0, 4, 0, 28, 60, 124, 255, 511, 1023]
theorem majordomolaw06_ResourceTold.tab13 : rtab .any (opsOf Tryd.f5 13) = majordomolaw06_ResourceTold.T13 := by kernel_rfl
theorem majordomolaw06_ResourceTold.bits13 : waitsOk majordomolaw06_ResourceTold.T13.2 majordomolaw06_ResourceTold.B13 = true := by kernel_rfl
def majordomolaw06_ResourceTold.T17 : Bool × List (List Nat × List Nat) := (true, [([], []), ([], []), ([1], [1]), ([], []), ([2, 3], [2, 3]), ([4], [4]), ([5], [5]), ([0, 6], [0, 6]), ([7], [7]), ([8], [8]), ([8], [8]), ([9, 7, 0, 1, 2, 3, 4, 5, 6, 7, 8, 9], [9]), ([10, 11, 0, 1, 2, 3, 4, 5, 6, 7, 8, 9, 10, 11], [10])])
def majordomolaw06_ResourceTold.B17 : List Nat := [0, 0, 2, 0, 14, 30, 62, 127, 255, 511, 511, 1023, 4095]
theorem majordomolaw06_ResourceTold.tab17 : rtab .any (opsOf Tryd.f5 17) = majordomolaw06_ResourceTold.T17 := by kernel_rfl
theorem majordomolaw06_ResourceTold.bits17 : waitsOk majordomolaw06_ResourceTold.T17.2 majordomolaw06_ResourceTold.B17 = true := by kernel_rfl
def majordomolaw06_ResourceTold.T18 : Bool × List (List Nat × List Nat) := (true, [([], []), ([], []), ([1], [1]), ([], []), ([2, 3], [2, 3]), ([4], [4]), ([5], [5]), ([0, 6], [0, 6]), ([7], [7]), ([8], [8]), ([8], [8]), ([9, 7, 0, 1, 2, 3, 4, 5, 6, 7, 8, 9], [9]), ([10, 11, 0, 1, 2, 3, 4, 5, 6, 7, 8, 9, 10, 11], [10])])
def majordomolaw06_ResourceTold.B18 : List Nat := [0, 0, 2, 0, 14, 30, 62, 127, 255, 511, 511, 1023, 4095]
theorem majordomolaw06_ResourceTold.tab18 : rtab .any (opsOf Tryd.f5 18) = majordomolaw06_ResourceTold.T18 := by kernel_rfl
theorem majordomolaw06_ResourceTold.bits18 : waitsOk majordomolaw06_ResourceTold.T18.2 majordomolaw06_ResourceTold.B18 = true := by kernel_rfl
def majordomolaw06_ResourceTold.T25 : Bool × List (List Nat × List Nat) := (true, [([], []), ([0], [0]), ([], []), ([1, 2], [1, 2]), ([3], [3]), ([], []), ([5], [5]), ([], []), ([6, 7], [6, 7]), ([8], [8]), ([4, 9], [4, 9]), ([10, 0, 1, 2, 3, 4, 5, 6, 7, 8, 9, 10], [10])])
def majordomolaw06_ResourceTold.B25 : List Nat := [0, 1, 0, 7, 15, 0, 32, 0, 224, 480, 1023, 2047]
theorem majordomolaw06_ResourceTold.tab25 : rtab .any (opsOf Tryd.f5 25) = majordomolaw06_ResourceTold.T25 := by kernel_rfl
theorem majordomolaw06_ResourceTold.bits25 : waitsOk majordomolaw06_ResourceTold.T25.2 majordomolaw06_ResourceTold.B25 = true := by kernel_rfl
set_option maxHeartbeats 8000000 in
set_option maxRecDepth 100000 in
theorem majordomolaw06_ResourceTold.calls (k : Nat) (a0_0 : ByteArray) (a0_1 : ByteArray) (A0_2 : Option Addr) (c0_2 : Nat) (l0_2 : List (S34)) (a1 : Int) (r : Bool) (w : World) (hr0_2 : Kd.C k34 w A0_2 l0_2.length l0_2) (hc0_2 : l0_2.length ≤ c0_2) (h : majordomolaw06_ResourceTold.f k a0_0 a0_1 l0_2 a1 = some r) (hU : UtfOk w) :
    Calls Tryd.prog 5 #[.agg #[.string a0_0, .string a0_1, .slice A0_2 l0_2.length c0_2], .int .i64 a1] w fun e w' => e = .returned (.bool r) ∧ Below w.heap.size w w' := by
  have HU := Aside0.mk hU
  clear hU
  have hu24 := Tryd.underlying24
  have hu34 := Tryd.underlying34
  have HR0_2 := Aside0.mk hr0_2
  have HC0_2 := Aside0.mk hc0_2
  clear hr0_2 hc0_2
  have HB := Aside0.mk (Below.refl w.heap.size w)
  have H : ((majordomolaw06_shown.f).bind fun t348 => ((resource_Full.f a0_0 a0_1 l0_2).bind fun bt349 => (if t348 = true then (if bt349.2.2.2 = 0 then (majordomolaw06_ResourceTold.j0 k a1 t348 ((bt349.2.2.1.length : Int) == 0) bt349.1 bt349.2.1 bt349.2.2.1) else (majordomolaw06_ResourceTold.j0 k a1 t348 true bt349.1 bt349.2.1 bt349.2.2.1)) else (majordomolaw06_ResourceTold.j0 k a1 t348 true bt349.1 bt349.2.1 bt349.2.2.1)))) = some r := h
  clear h
  replace H := Option.bind_eq_some_iff.mp H
  obtain ⟨t348, A30, H⟩ := H
  replace H : ((resource_Full.f a0_0 a0_1 l0_2).bind fun bt349 => (if t348 = true then (if bt349.2.2.2 = 0 then (majordomolaw06_ResourceTold.j0 k a1 t348 ((bt349.2.2.1.length : Int) == 0) bt349.1 bt349.2.1 bt349.2.2.1) else (majordomolaw06_ResourceTold.j0 k a1 t348 true bt349.1 bt349.2.1 bt349.2.2.1)) else (majordomolaw06_ResourceTold.j0 k a1 t348 true bt349.1 bt349.2.1 bt349.2.2.1))) = some r := H
  have A3 := Aside0.mk A30
  clear A30
  replace H := Option.bind_eq_some_iff.mp H
  obtain ⟨⟨t349, t350, t351, t354⟩, A40, H⟩ := H
  replace H : (if t348 = true then (if t354 = 0 then (majordomolaw06_ResourceTold.j0 k a1 t348 ((t351.length : Int) == 0) t349 t350 t351) else (majordomolaw06_ResourceTold.j0 k a1 t348 true t349 t350 t351)) else (majordomolaw06_ResourceTold.j0 k a1 t348 true t349 t350 t351)) = some r := H
  have A4 := Aside0.mk A40
  clear A40
  have HC5 := Aside0.mk H
  clear H
  go_enter Tryd.func5, Tryd.ntmps5
  go_upto_region 3 with (first | ((with_reducible refine gate_dst (N := 2) rfl ?_); (try (refine gate_guard (by rfl) ?_; dsimp only)); refine box_event ?hg (N := 2) ?hd (cs := #[.string a0_0, .string a0_1, .slice A0_2 l0_2.length c0_2]) (t := 24) ?hr ?_; (case hd => rfl); (case hg => rfl); (case hr => first | (go_simp; done) | (go_simp; rfl)); intro gb347 hg w6 hbox hb; have n0_ := Aside0.mk (below_step (by repeat (first | (with_reducible first | exact HB.out | apply below_alloc | apply pw_below_drewN | apply below_drew1) | exact HB.out)) hb); have n1_ := Aside0.mk (hbox); have n2_ := Aside0.mk ((by rw [hg]; exact (below_size (by repeat (first | (with_reducible first | exact HB.out | apply below_alloc | apply pw_below_drewN | apply below_drew1) | exact HB.out))) : w.heap.size ≤ gb347)); have n3_ := Aside0.mk ((by rw [hg]; exact (below_size (by repeat (first | (with_reducible first | exact HB.out | apply below_alloc | apply pw_below_drewN | apply below_drew1) | exact HB.out))) : w.heap.size ≤ gb347)); clear HB; have HB := n0_; have BK347 := n1_; have GW347 := n2_; have GE347 := n3_; clear n0_ n1_ n2_ n3_; clear hb hbox hg) | ((with_reducible refine gate_callee (f := 7) rfl ?_); refine goesL_ (some 18) rfl rfl Tryd.func7 (by kernel_rfl) rfl #[] rfl (by (try simp only [List.map_toArray, List.map_cons, List.map_nil]); first | done | rfl | (simp only [List.length_drop, List.length_take]; rfl)) ?_; (with_reducible refine (majordomolaw06_shown.calls  t348 _ A3.out (UtfOk.of_below HU.out (by repeat (first | (with_reducible first | exact HB.out | apply below_alloc | apply pw_below_drewN | apply below_drew1 | refine below_set ?_ GE347.out) | exact HB.out)))).mono ?_); rintro e w7 ⟨rfl, hb⟩; refine ⟨_, rfl, ?_⟩; have n0_ := Aside0.mk (blk_below (g := gb347) (o := .cells #[.string a0_0, .string a0_1, .slice A0_2 l0_2.length c0_2] 24 (0, 0)) (by (with_reducible repeat (first | refine blk_drewN ?_ _ | refine blk_drew ?_ | refine blk_alloc ?_ _)); exact BK347.out) hb); have n1_ := Aside0.mk (below_step (by repeat (first | (with_reducible first | exact HB.out | apply below_alloc | apply pw_below_drewN | apply below_drew1 | refine below_set ?_ GE347.out) | exact HB.out)) hb); clear BK347; clear HB; have BK347 := n0_; have HB := n1_; clear n0_ n1_; (try clear hb); (try clear hb2); (try clear hk); (try clear hi); have hcz8_0 : w7.cell? ⟨gb347, 0, none⟩ = some (.string a0_0) := (blk_cell BK347.out 0).trans rfl; have hcz8_1 : w7.cell? ⟨gb347, 1, none⟩ = some (.string a0_1) := (blk_cell BK347.out 1).trans rfl; have hcz8_2 : w7.cell? ⟨gb347, 2, none⟩ = some (.slice A0_2 l0_2.length c0_2) := (blk_cell BK347.out 2).trans rfl; have hfz8_0 := blk_frozen BK347.out 0; have hfz8_1 := blk_frozen BK347.out 1; have hfz8_2 := blk_frozen BK347.out 2) | ((with_reducible refine gate_callee (f := 8) rfl ?_); refine goesL_ (some 21) rfl rfl Tryd.func8 (by kernel_rfl) rfl #[.agg #[.string a0_0, .string a0_1, .slice A0_2 l0_2.length c0_2]] rfl (by (try simp only [List.map_toArray, List.map_cons, List.map_nil]); first | done | rfl | (simp only [List.length_drop, List.length_take]; rfl)) ?_; (with_reducible refine (resource_Full.calls a0_0 a0_1 _ _ l0_2 t349 t350 t351 t354 _ ?side1 ?side2 A4.out (UtfOk.of_below HU.out (by repeat (first | (with_reducible first | exact HB.out | apply below_alloc | apply pw_below_drewN | apply below_drew1 | refine below_set ?_ GE347.out) | exact HB.out)))).mono ?_); (case side1 => repeat (first | exact (Kd.C_below HR0_2.out HB.out) | (with_reducible refine Kd.C_alloc ?_ _) | (with_reducible refine Kd.C_drewN ?_ _) | (with_reducible refine Kd.C_drew ?_))); (case side2 => exact HC0_2.out); rintro e w9 ⟨v352, rfl, ho0, hb⟩; refine ⟨_, rfl, ?_⟩; have n0_ := Aside0.mk (Kd.R_lower ho0 (below_size (by repeat (first | (with_reducible first | exact HB.out | apply below_alloc | apply pw_below_drewN | apply below_drew1 | refine below_set ?_ GE347.out) | exact HB.out)))); have n1_ := Aside0.mk (blk_below (g := gb347) (o := .cells #[.string a0_0, .string a0_1, .slice A0_2 l0_2.length c0_2] 24 (0, 0)) (by (with_reducible repeat (first | refine blk_drewN ?_ _ | refine blk_drew ?_ | refine blk_alloc ?_ _)); exact BK347.out) hb); have n2_ := Aside0.mk (below_step (by repeat (first | (with_reducible first | exact HB.out | apply below_alloc | apply pw_below_drewN | apply below_drew1 | refine below_set ?_ GE347.out) | exact HB.out)) hb); clear BK347; clear HB; have HO353 := n0_; have BK347 := n1_; have HB := n2_; clear n0_ n1_ n2_; (try clear hb); (try clear hb2); (try clear hk); (try clear hi); (try clear ho0)) | ((with_reducible refine gate_dst (N := 6) rfl ?_); (try (refine gate_guard (by rfl) ?_; dsimp only)); refine box_event ?hg (N := 6) ?hd (cs := #[.string (⟨#[]⟩ : ByteArray), .string (⟨#[]⟩ : ByteArray), .slice none 0 0]) (t := 24) ?hr ?_; (case hd => rfl); (case hg => rfl); (case hr => first | (go_simp; done) | (go_simp; rfl)); intro gb355 hg w10 hbox hb; have n0_ := Aside0.mk (Kd.R_below (by (with_reducible repeat (first | apply Kd.R_alloc | apply Kd.R_drewN | apply Kd.R_drew)); exact HO353.out) hb); have n1_ := Aside0.mk (blk_below (g := gb347) (o := .cells #[.string a0_0, .string a0_1, .slice A0_2 l0_2.length c0_2] 24 (0, 0)) (by (with_reducible repeat (first | refine blk_drewN ?_ _ | refine blk_drew ?_ | refine blk_alloc ?_ _)); exact BK347.out) hb); have n2_ := Aside0.mk (below_step (by repeat (first | (with_reducible first | exact HB.out | apply below_alloc | apply pw_below_drewN | apply below_drew1 | refine below_set ?_ GE347.out) | exact HB.out)) hb); have n3_ := Aside0.mk (hbox); have n4_ := Aside0.mk ((by rw [hg]; exact (below_size (by repeat (first | (with_reducible first | exact HB.out | apply below_alloc | apply pw_below_drewN | apply below_drew1 | refine below_set ?_ GE347.out) | exact HB.out))) : w.heap.size ≤ gb355)); have n5_ := Aside0.mk ((by rw [hg]; exact (below_size (by repeat (first | (with_reducible first | exact HB.out | apply below_alloc | apply pw_below_drewN | apply below_drew1 | refine below_set ?_ GE347.out) | exact HB.out))) : w.heap.size ≤ gb355)); have n6_ := Aside0.mk ((by rw [hg]; exact Nat.ne_of_lt (blk_lt (g := gb347) (o := .cells #[.string a0_0, .string a0_1, .slice A0_2 l0_2.length c0_2] 24 (0, 0)) (by (with_reducible repeat (first | refine blk_drewN ?_ _ | refine blk_drew ?_ | refine blk_alloc ?_ _)); exact BK347.out)) : gb347 ≠ gb355)); have n7_ := Aside0.mk ((by rw [hg]; exact Nat.ne_of_gt (blk_lt (g := gb347) (o := .cells #[.string a0_0, .string a0_1, .slice A0_2 l0_2.length c0_2] 24 (0, 0)) (by (with_reducible repeat (first | refine blk_drewN ?_ _ | refine blk_drew ?_ | refine blk_alloc ?_ _)); exact BK347.out)) : gb355 ≠ gb347)); clear HO353; clear BK347; clear HB; have HO353 := n0_; have BK347 := n1_; have HB := n2_; have BK355 := n3_; have GW355 := n4_; have GE355 := n5_; have NB347_355 := n6_; have NB355_347 := n7_; clear n0_ n1_ n2_ n3_ n4_ n5_ n6_ n7_; clear hb hbox hg; have hnb11 := NB355_347.out; have hnc11 := NB347_355.out; have hcz12_0 : w10.cell? ⟨gb355, 0, none⟩ = some (.string (⟨#[]⟩ : ByteArray)) := (blk_cell BK355.out 0).trans rfl; have hcz12_1 : w10.cell? ⟨gb355, 1, none⟩ = some (.string (⟨#[]⟩ : ByteArray)) := (blk_cell BK355.out 1).trans rfl; have hcz12_2 : w10.cell? ⟨gb355, 2, none⟩ = some (.slice none 0 0) := (blk_cell BK355.out 2).trans rfl; have hfz12_0 := blk_frozen BK355.out 0; have hfz12_1 := blk_frozen BK355.out 1; have hfz12_2 := blk_frozen BK355.out 2; obtain ⟨Ao13, co13, eo13⟩ := Kd.R_slice HO353.out; subst eo13))
  (try simp only [Act.put, List.setIfInBounds_toArray, List.set_cons_zero, List.set_cons_succ])
  go_cut [35] (fun v35 wc => ∃ (kq : Nat) (x35_4 : Bool), v35 = .bool x35_4 ∧ Aside0 (majordomolaw06_ResourceTold.j0 kq a1 t348 x35_4 t349 t350 t351 = some r) ∧ Aside0 (kq ≤ k) ∧ Aside0 (Kd.R k34 34 wc w.heap.size (fun _ => True) (.slice Ao13 t351.length co13) t351) ∧ Aside0 (wc.heap[gb347]? = some (.cells #[.string a0_0, .string a0_1, (.slice A0_2 l0_2.length c0_2)] 24 (0, 0))) ∧ Aside0 (wc.heap[gb355]? = some (.cells #[.string t349, .string t350, (.slice Ao13 t351.length co13)] 24 (0, 0))) ∧ Aside0 (Below w.heap.size w wc))
  case first =>
    have H := HC5.out
    clear HC5
    by_cases c14 : t348 = true
    · subst c14
      have H1 : (if t354 = 0 then (majordomolaw06_ResourceTold.j0 k a1 true ((t351.length : Int) == 0) t349 t350 t351) else (majordomolaw06_ResourceTold.j0 k a1 true true t349 t350 t351)) = some r := by rw [if_pos rfl] at H; exact H
      clear H
      have H := H1
      clear H1
      by_cases c15 : t354 = 0
      · rw [if_pos c15] at H
        have c15b0 : (t354 == 0) = true := beq_iff_eq.mpr c15
        have c15b1 : (t354 != 0) = false := bne_eq_false_iff_eq.mpr c15
        clear c15
        (first | rw [c15b0] | (simp only [i64_w, i32_w]; rw [c15b0]) | skip)
        have H' := Aside0.mk H
        clear H
        have hnb16 := NB355_347.out
        have hnc16 := NB347_355.out
        have hcz17_0 : w10.cell? ⟨gb355, 0, none⟩ = some (.string (⟨#[]⟩ : ByteArray)) := (blk_cell BK355.out 0).trans rfl
        have hcz17_1 : w10.cell? ⟨gb355, 1, none⟩ = some (.string (⟨#[]⟩ : ByteArray)) := (blk_cell BK355.out 1).trans rfl
        have hcz17_2 : w10.cell? ⟨gb355, 2, none⟩ = some (.slice none 0 0) := (blk_cell BK355.out 2).trans rfl
        have hfz17_0 := blk_frozen BK355.out 0
        have hfz17_1 := blk_frozen BK355.out 1
        have hfz17_2 := blk_frozen BK355.out 2
        go_wp2
        go_meet
        case rel => exact ⟨_, (((t351.length : Int) == 0)), (by first | rfl | (simp; done) | (simp [*]; done)), H', ⟨by first | omega | exact Nat.le_refl _⟩, ⟨by (with_reducible repeat (first | apply Kd.R_alloc | apply Kd.R_drewN | apply Kd.R_drew)); exact Kd.R_mono (Kd.R_far (p := ⟨gb355, 2, none⟩) (Kd.R_far (p := ⟨gb355, 1, none⟩) (Kd.R_far (p := ⟨gb355, 0, none⟩) (Kd.R_types HO353.out BK355.out (by decide)) (fun _ hk => hk.2) (.string t349)) (fun _ hk => hk.2) (.string t350)) (fun _ hk => hk.2) (.slice Ao13 t351.length co13)) (fun _ hk => trivial)⟩, ⟨by (with_reducible repeat (first | refine blk_drewN ?_ _ | refine blk_drew ?_ | refine blk_alloc ?_ _)); refine blk_far ?_ NB347_355.out _; (with_reducible repeat (first | refine blk_drewN ?_ _ | refine blk_drew ?_ | refine blk_alloc ?_ _)); refine blk_far ?_ NB347_355.out _; (with_reducible repeat (first | refine blk_drewN ?_ _ | refine blk_drew ?_ | refine blk_alloc ?_ _)); refine blk_far ?_ NB347_355.out _; (with_reducible repeat (first | refine blk_drewN ?_ _ | refine blk_drew ?_ | refine blk_alloc ?_ _)); exact BK347.out⟩, ⟨by (with_reducible repeat (first | refine blk_drewN ?_ _ | refine blk_drew ?_ | refine blk_alloc ?_ _)); refine blk_put (cs := #[.string t349, .string t350, .slice none 0 0]) ?_ 2 _ rfl; (with_reducible repeat (first | refine blk_drewN ?_ _ | refine blk_drew ?_ | refine blk_alloc ?_ _)); refine blk_put (cs := #[.string t349, .string (⟨#[]⟩ : ByteArray), .slice none 0 0]) ?_ 1 _ rfl; (with_reducible repeat (first | refine blk_drewN ?_ _ | refine blk_drew ?_ | refine blk_alloc ?_ _)); refine blk_put (cs := #[.string (⟨#[]⟩ : ByteArray), .string (⟨#[]⟩ : ByteArray), .slice none 0 0]) ?_ 0 _ rfl; (with_reducible repeat (first | refine blk_drewN ?_ _ | refine blk_drew ?_ | refine blk_alloc ?_ _)); exact BK355.out⟩, ⟨by repeat (first | (with_reducible first | exact HB.out | apply below_alloc | apply pw_below_drewN | apply below_drew1 | refine below_set ?_ GE347.out | refine below_set ?_ GE355.out) | exact HB.out)⟩⟩
      · rw [if_neg c15] at H
        have c15b0 : (t354 == 0) = false := beq_eq_false_iff_ne.mpr c15
        have c15b1 : (t354 != 0) = true := bne_iff_ne.mpr c15
        (first | rw [c15b0] | (simp only [i64_w, i32_w]; rw [c15b0]) | skip)
        have H' := Aside0.mk H
        clear H
        go_wp2
        go_meet
        case rel => exact ⟨_, (true), (by first | rfl | (simp; done) | (simp [*]; done)), H', ⟨by first | omega | exact Nat.le_refl _⟩, ⟨by (with_reducible repeat (first | apply Kd.R_alloc | apply Kd.R_drewN | apply Kd.R_drew)); exact Kd.R_mono (Kd.R_far (p := ⟨gb355, 2, none⟩) (Kd.R_far (p := ⟨gb355, 1, none⟩) (Kd.R_far (p := ⟨gb355, 0, none⟩) (Kd.R_types HO353.out BK355.out (by decide)) (fun _ hk => hk.2) (.string t349)) (fun _ hk => hk.2) (.string t350)) (fun _ hk => hk.2) (.slice Ao13 t351.length co13)) (fun _ hk => trivial)⟩, ⟨by (with_reducible repeat (first | refine blk_drewN ?_ _ | refine blk_drew ?_ | refine blk_alloc ?_ _)); refine blk_far ?_ NB347_355.out _; (with_reducible repeat (first | refine blk_drewN ?_ _ | refine blk_drew ?_ | refine blk_alloc ?_ _)); refine blk_far ?_ NB347_355.out _; (with_reducible repeat (first | refine blk_drewN ?_ _ | refine blk_drew ?_ | refine blk_alloc ?_ _)); refine blk_far ?_ NB347_355.out _; (with_reducible repeat (first | refine blk_drewN ?_ _ | refine blk_drew ?_ | refine blk_alloc ?_ _)); exact BK347.out⟩, ⟨by (with_reducible repeat (first | refine blk_drewN ?_ _ | refine blk_drew ?_ | refine blk_alloc ?_ _)); refine blk_put (cs := #[.string t349, .string t350, .slice none 0 0]) ?_ 2 _ rfl; (with_reducible repeat (first | refine blk_drewN ?_ _ | refine blk_drew ?_ | refine blk_alloc ?_ _)); refine blk_put (cs := #[.string t349, .string (⟨#[]⟩ : ByteArray), .slice none 0 0]) ?_ 1 _ rfl; (with_reducible repeat (first | refine blk_drewN ?_ _ | refine blk_drew ?_ | refine blk_alloc ?_ _)); refine blk_put (cs := #[.string (⟨#[]⟩ : ByteArray), .string (⟨#[]⟩ : ByteArray), .slice none 0 0]) ?_ 0 _ rfl; (with_reducible repeat (first | refine blk_drewN ?_ _ | refine blk_drew ?_ | refine blk_alloc ?_ _)); exact BK355.out⟩, ⟨by repeat (first | (with_reducible first | exact HB.out | apply below_alloc | apply pw_below_drewN | apply below_drew1 | refine below_set ?_ GE347.out | refine below_set ?_ GE355.out) | exact HB.out)⟩⟩
    · replace c14 := Bool.eq_false_iff.mpr c14
      subst c14
      have H1 : (majordomolaw06_ResourceTold.j0 k a1 false true t349 t350 t351) = some r := by rw [if_neg (show ¬ (false = true) by decide)] at H; exact H
      clear H
      have H := H1
      clear H1
      have H' := Aside0.mk H
      clear H
      go_wp2
      go_meet
      case rel => exact ⟨_, (true), (by first | rfl | (simp; done) | (simp [*]; done)), H', ⟨by first | omega | exact Nat.le_refl _⟩, ⟨by (with_reducible repeat (first | apply Kd.R_alloc | apply Kd.R_drewN | apply Kd.R_drew)); exact Kd.R_mono (Kd.R_far (p := ⟨gb355, 2, none⟩) (Kd.R_far (p := ⟨gb355, 1, none⟩) (Kd.R_far (p := ⟨gb355, 0, none⟩) (Kd.R_types HO353.out BK355.out (by decide)) (fun _ hk => hk.2) (.string t349)) (fun _ hk => hk.2) (.string t350)) (fun _ hk => hk.2) (.slice Ao13 t351.length co13)) (fun _ hk => trivial)⟩, ⟨by (with_reducible repeat (first | refine blk_drewN ?_ _ | refine blk_drew ?_ | refine blk_alloc ?_ _)); refine blk_far ?_ NB347_355.out _; (with_reducible repeat (first | refine blk_drewN ?_ _ | refine blk_drew ?_ | refine blk_alloc ?_ _)); refine blk_far ?_ NB347_355.out _; (with_reducible repeat (first | refine blk_drewN ?_ _ | refine blk_drew ?_ | refine blk_alloc ?_ _)); refine blk_far ?_ NB347_355.out _; (with_reducible repeat (first | refine blk_drewN ?_ _ | refine blk_drew ?_ | refine blk_alloc ?_ _)); exact BK347.out⟩, ⟨by (with_reducible repeat (first | refine blk_drewN ?_ _ | refine blk_drew ?_ | refine blk_alloc ?_ _)); refine blk_put (cs := #[.string t349, .string t350, .slice none 0 0]) ?_ 2 _ rfl; (with_reducible repeat (first | refine blk_drewN ?_ _ | refine blk_drew ?_ | refine blk_alloc ?_ _)); refine blk_put (cs := #[.string t349, .string (⟨#[]⟩ : ByteArray), .slice none 0 0]) ?_ 1 _ rfl; (with_reducible repeat (first | refine blk_drewN ?_ _ | refine blk_drew ?_ | refine blk_alloc ?_ _)); refine blk_put (cs := #[.string (⟨#[]⟩ : ByteArray), .string (⟨#[]⟩ : ByteArray), .slice none 0 0]) ?_ 0 _ rfl; (with_reducible repeat (first | refine blk_drewN ?_ _ | refine blk_drew ?_ | refine blk_alloc ?_ _)); exact BK355.out⟩, ⟨by repeat (first | (with_reducible first | exact HB.out | apply below_alloc | apply pw_below_drewN | apply below_drew1 | refine below_set ?_ GE347.out | refine below_set ?_ GE355.out) | exact HB.out)⟩⟩
  case rest =>
    clear HC5
    try clear c1
    try clear p2
    try clear c5
    try clear c7
    try clear c8
    try clear c11
    try clear c14
    try clear c15
    try clear c15b0
    try clear c15b1
    try clear c16
    try clear hcz12_0
    try clear hcz12_1
    try clear hcz12_2
    try clear hcz17_0
    try clear hcz17_1
    try clear hcz17_2
    try clear hcz8_0
    try clear hcz8_1
    try clear hcz8_2
    try clear hfz12_0
    try clear hfz12_1
    try clear hfz12_2
    try clear hfz17_0
    try clear hfz17_1
    try clear hfz17_2
    try clear hfz8_0
    try clear hfz8_1
    try clear hfz8_2
    obtain ⟨kq, x35_4, rfl, HA, HJ4, HO_356002, BK347, BK355, HB⟩ := hcut
    cases kq with
    | zero => exact absurd HA.out (by simp [majordomolaw06_ResourceTold.j0])
    | succ kj4 =>
      have H := HA.out
      clear HA
      simp only [majordomolaw06_ResourceTold.j0] at H
      by_cases c18 : x35_4 = true
      · subst c18
        have H1 : (some t348) = some r := by rw [if_pos rfl] at H; exact H
        clear H
        have H := H1
        clear H1
        obtain rfl := Option.some.inj H
        go_wp2
        go_ret
        exact ⟨by first | rfl | (simp [errW_none, errW_some] <;> rfl) | (simp [*, errW_none, errW_some] <;> rfl), by repeat (first | (with_reducible first | exact HB.out | apply below_alloc | apply pw_below_drewN | apply below_drew1 | refine below_set ?_ GE347.out | refine below_set ?_ GE355.out) | exact HB.out)⟩
      · replace c18 := Bool.eq_false_iff.mpr c18
        subst c18
        have H1 : (if a1 < 0 then (majordomolaw06_ResourceTold.j1 kj4 (wrap64 (-(wrap64 (a1 + 1)))) t349 t350 t351) else (majordomolaw06_ResourceTold.j1 kj4 a1 t349 t350 t351)) = some r := by rw [if_neg (show ¬ (false = true) by decide)] at H; exact H
        clear H
        have H := H1
        clear H1
        have HC19 := Aside0.mk H
        clear H
        go_upto_if 38 with (fail)
        go_cut [1] (fun v1 wc => ∃ (kq : Nat) (x1_18 : Int), v1 = .int .i64 x1_18 ∧ Aside0 (majordomolaw06_ResourceTold.j1 kq x1_18 t349 t350 t351 = some r) ∧ Aside0 (kq ≤ kj4) ∧ Aside0 (Kd.R k34 34 wc w.heap.size (fun _ => True) (.slice Ao13 t351.length co13) t351) ∧ Aside0 (wc.heap[gb347]? = some (.cells #[.string a0_0, .string a0_1, (.slice A0_2 l0_2.length c0_2)] 24 (0, 0))) ∧ Aside0 (wc.heap[gb355]? = some (.cells #[.string t349, .string t350, (.slice Ao13 t351.length co13)] 24 (0, 0))) ∧ Aside0 (Below w.heap.size w wc))
        case first =>
          have H := HC19.out
          clear HC19
          by_cases c20 : a1 < 0
          · rw [if_pos c20] at H
            have c20b0 : decide (a1 < 0) = true := decide_eq_true c20
            clear c20
            (first | rw [c20b0] | (simp only [i64_w, i32_w]; rw [c20b0]) | skip)
            have H' := Aside0.mk H
            clear H
            go_wp2
            go_meet
            case rel => exact ⟨_, (wrap64 (-(wrap64 (a1 + 1)))), (by first | rfl | (simp; done) | (simp [*]; done)), H', ⟨by have := HJ4.out; first | omega | exact Nat.le_refl _⟩, ⟨by (with_reducible repeat (first | apply Kd.R_alloc | apply Kd.R_drewN | apply Kd.R_drew)); exact HO_356002.out⟩, ⟨by (with_reducible repeat (first | refine blk_drewN ?_ _ | refine blk_drew ?_ | refine blk_alloc ?_ _)); exact BK347.out⟩, ⟨by (with_reducible repeat (first | refine blk_drewN ?_ _ | refine blk_drew ?_ | refine blk_alloc ?_ _)); exact BK355.out⟩, ⟨by repeat (first | (with_reducible first | exact HB.out | apply below_alloc | apply pw_below_drewN | apply below_drew1 | refine below_set ?_ GE347.out | refine below_set ?_ GE355.out) | exact HB.out)⟩⟩
          · rw [if_neg c20] at H
            have c20b0 : decide (a1 < 0) = false := decide_eq_false c20
            clear c20
            (first | rw [c20b0] | (simp only [i64_w, i32_w]; rw [c20b0]) | skip)
            have H' := Aside0.mk H
            clear H
            go_wp2
            go_meet
            case rel => exact ⟨_, (a1), (by first | rfl | (simp; done) | (simp [*]; done)), H', ⟨by have := HJ4.out; first | omega | exact Nat.le_refl _⟩, ⟨by (with_reducible repeat (first | apply Kd.R_alloc | apply Kd.R_drewN | apply Kd.R_drew)); exact HO_356002.out⟩, ⟨by (with_reducible repeat (first | refine blk_drewN ?_ _ | refine blk_drew ?_ | refine blk_alloc ?_ _)); exact BK347.out⟩, ⟨by (with_reducible repeat (first | refine blk_drewN ?_ _ | refine blk_drew ?_ | refine blk_alloc ?_ _)); exact BK355.out⟩, ⟨by repeat (first | (with_reducible first | exact HB.out | apply below_alloc | apply pw_below_drewN | apply below_drew1 | refine below_set ?_ GE347.out | refine below_set ?_ GE355.out) | exact HB.out)⟩⟩
        case rest =>
          clear HC19
          try clear c1
          try clear c2
          try clear p2
          try clear c5
          try clear p6
          try clear c7
          try clear c8
          try clear c11
          try clear c14
          try clear c15
          try clear c15b0
          try clear c15b1
          try clear c16
          try clear c18
          try clear c20
          try clear c20b0
          try clear hcz12_0
          try clear hcz12_1
          try clear hcz12_2
          try clear hcz17_0
          try clear hcz17_1
          try clear hcz17_2
          try clear hcz8_0
          try clear hcz8_1
          try clear hcz8_2
          try clear hfz12_0
          try clear hfz12_1
          try clear hfz12_2
          try clear hfz17_0
          try clear hfz17_1
          try clear hfz17_2
          try clear hfz8_0
          try clear hfz8_1
          try clear hfz8_2
          try clear p2
          obtain ⟨kq, x1_18, rfl, HA, HJ18, HO_356002, BK347, BK355, HB⟩ := hcut
          cases kq with
          | zero => exact absurd HA.out (by simp [majordomolaw06_ResourceTold.j1])
          | succ kj18 =>
            have H := HA.out
            clear HA
            simp only [majordomolaw06_ResourceTold.j1] at H
            by_cases c21 : (t351.length : Int) = 0
            · rw [if_pos c21] at H
              exact absurd H (by simp)
            · rw [if_neg c21] at H
              have c21b0 : ((t351.length : Int) == 0) = false := beq_eq_false_iff_ne.mpr c21
              have c21b1 : ((t351.length : Int) != 0) = true := bne_iff_ne.mpr c21
              have c21b2 : ¬ (t351 = []) := fun h_ => c21 (by rw [h_]; rfl)
              have H' := Aside0.mk H
              clear H
              have hnb22 := NB355_347.out
              have hnc22 := NB347_355.out
              have hcz23_0 : wc.cell? ⟨gb355, 0, none⟩ = some (.string t349) := (blk_cell BK355.out 0).trans rfl
              have hcz23_1 : wc.cell? ⟨gb355, 1, none⟩ = some (.string t350) := (blk_cell BK355.out 1).trans rfl
              have hcz23_2 : wc.cell? ⟨gb355, 2, none⟩ = some (.slice Ao13 t351.length co13) := (blk_cell BK355.out 2).trans rfl
              have hfz23_0 := blk_frozen BK355.out 0
              have hfz23_1 := blk_frozen BK355.out 1
              have hfz23_2 := blk_frozen BK355.out 2
              go_wp2_with (first | ((with_reducible refine gate_dst (N := 8) rfl ?_); (try (refine gate_guard (by rfl) ?_; dsimp only)); refine box_event ?hg (N := 8) ?hd (cs := #[.string (⟨#[]⟩ : ByteArray), .string (⟨#[]⟩ : ByteArray), .slice none 0 0]) (t := 24) ?hr ?_; (case hd => rfl); (case hg => rfl); (case hr => first | (go_simp; done) | (go_simp; rfl)); intro gb356 hg w24 hbox hb; have n0_ := Aside0.mk (Kd.R_below (by (with_reducible repeat (first | apply Kd.R_alloc | apply Kd.R_drewN | apply Kd.R_drew)); exact HO_356002.out) hb); have n1_ := Aside0.mk (blk_below (g := gb347) (o := .cells #[.string a0_0, .string a0_1, .slice A0_2 l0_2.length c0_2] 24 (0, 0)) (by (with_reducible repeat (first | refine blk_drewN ?_ _ | refine blk_drew ?_ | refine blk_alloc ?_ _)); exact BK347.out) hb); have n2_ := Aside0.mk (blk_below (g := gb355) (o := .cells #[.string t349, .string t350, .slice Ao13 t351.length co13] 24 (0, 0)) (by (with_reducible repeat (first | refine blk_drewN ?_ _ | refine blk_drew ?_ | refine blk_alloc ?_ _)); exact BK355.out) hb); have n3_ := Aside0.mk (below_step (by repeat (first | (with_reducible first | exact HB.out | apply below_alloc | apply pw_below_drewN | apply below_drew1 | refine below_set ?_ GE347.out | refine below_set ?_ GE355.out) | exact HB.out)) hb); have n4_ := Aside0.mk (hbox); have n5_ := Aside0.mk ((by rw [hg]; exact (below_size (by repeat (first | (with_reducible first | exact HB.out | apply below_alloc | apply pw_below_drewN | apply below_drew1 | refine below_set ?_ GE347.out | refine below_set ?_ GE355.out) | exact HB.out))) : w.heap.size ≤ gb356)); have n6_ := Aside0.mk ((by rw [hg]; exact (below_size (by repeat (first | (with_reducible first | exact HB.out | apply below_alloc | apply pw_below_drewN | apply below_drew1 | refine below_set ?_ GE347.out | refine below_set ?_ GE355.out) | exact HB.out))) : w.heap.size ≤ gb356)); have n7_ := Aside0.mk ((by rw [hg]; exact Nat.ne_of_lt (blk_lt (g := gb347) (o := .cells #[.string a0_0, .string a0_1, .slice A0_2 l0_2.length c0_2] 24 (0, 0)) (by (with_reducible repeat (first | refine blk_drewN ?_ _ | refine blk_drew ?_ | refine blk_alloc ?_ _)); exact BK347.out)) : gb347 ≠ gb356)); have n8_ := Aside0.mk ((by rw [hg]; exact Nat.ne_of_gt (blk_lt (g := gb347) (o := .cells #[.string a0_0, .string a0_1, .slice A0_2 l0_2.length c0_2] 24 (0, 0)) (by (with_reducible repeat (first | refine blk_drewN ?_ _ | refine blk_drew ?_ | refine blk_alloc ?_ _)); exact BK347.out)) : gb356 ≠ gb347)); have n9_ := Aside0.mk ((by rw [hg]; exact Nat.ne_of_lt (blk_lt (g := gb355) (o := .cells #[.string t349, .string t350, .slice Ao13 t351.length co13] 24 (0, 0)) (by (with_reducible repeat (first | refine blk_drewN ?_ _ | refine blk_drew ?_ | refine blk_alloc ?_ _)); exact BK355.out)) : gb355 ≠ gb356)); have n10_ := Aside0.mk ((by rw [hg]; exact Nat.ne_of_gt (blk_lt (g := gb355) (o := .cells #[.string t349, .string t350, .slice Ao13 t351.length co13] 24 (0, 0)) (by (with_reducible repeat (first | refine blk_drewN ?_ _ | refine blk_drew ?_ | refine blk_alloc ?_ _)); exact BK355.out)) : gb356 ≠ gb355)); clear HO_356002; clear BK347; clear BK355; clear HB; have HO_356002 := n0_; have BK347 := n1_; have BK355 := n2_; have HB := n3_; have BK356 := n4_; have GW356 := n5_; have GE356 := n6_; have NB347_356 := n7_; have NB356_347 := n8_; have NB355_356 := n9_; have NB356_355 := n10_; clear n0_ n1_ n2_ n3_ n4_ n5_ n6_ n7_ n8_ n9_ n10_; clear hb hbox hg; have hnb25 := NB356_347.out; have hnc25 := NB347_356.out; have hnb26 := NB356_355.out; have hnc26 := NB355_356.out; have hcz27_0 : w24.cell? ⟨gb356, 0, none⟩ = some (.string (⟨#[]⟩ : ByteArray)) := (blk_cell BK356.out 0).trans rfl; have hcz27_1 : w24.cell? ⟨gb356, 1, none⟩ = some (.string (⟨#[]⟩ : ByteArray)) := (blk_cell BK356.out 1).trans rfl; have hcz27_2 : w24.cell? ⟨gb356, 2, none⟩ = some (.slice none 0 0) := (blk_cell BK356.out 2).trans rfl; have hfz27_0 := blk_frozen BK356.out 0; have hfz27_1 := blk_frozen BK356.out 1; have hfz27_2 := blk_frozen BK356.out 2))
              go_loopg [9] kj18 (fun kq v9 w' => ∃ (x9_3 : Int) (x357002_3 : List (S34)) (u357002 : Value), v9 = .int .i64 x9_3 ∧ Aside0 (majordomolaw06_ResourceTold.l0 kq (Int.tmod x1_18 (t351.length : Int)) x9_3 t349 t350 t351 t349 t350 x357002_3 = some r) ∧ Aside0 (kq ≤ kj18) ∧ Aside0 (Kd.R k34 34 w' w.heap.size (fun k_ => some k_ ≠ (u357002 : Value).ownBlock) (.slice Ao13 t351.length co13) t351) ∧ Aside0 (Kd.R k34 34 w' w.heap.size (fun k_ => some k_ ≠ ((.slice Ao13 t351.length co13) : Value).ownBlock) u357002 x357002_3) ∧ Aside0 (w'.heap[gb347]? = some (.cells #[.string a0_0, .string a0_1, (.slice A0_2 l0_2.length c0_2)] 24 (0, 0))) ∧ Aside0 (w'.heap[gb355]? = some (.cells #[.string t349, .string t350, (.slice Ao13 t351.length co13)] 24 (0, 0))) ∧ Aside0 (w'.heap[gb356]? = some (.cells #[.string t349, .string t350, u357002] 24 (0, 0))) ∧ Aside0 (Below w.heap.size w w'))
              case atStart => exact ⟨(0), (([] : List (S34))), (.slice none 0 0), (by first | rfl | (simp; done) | (simp [*]; done)), H', ⟨Nat.le_refl _⟩, ⟨by (with_reducible repeat (first | apply Kd.R_alloc | apply Kd.R_drewN | apply Kd.R_drew)); exact Kd.R_mono (Kd.R_far (p := ⟨gb356, 2, none⟩) (Kd.R_far (p := ⟨gb356, 1, none⟩) (Kd.R_far (p := ⟨gb356, 0, none⟩) (Kd.R_types HO_356002.out BK356.out (by decide)) (fun _ hk => hk.2) (.string t349)) (fun _ hk => hk.2) (.string t350)) (fun _ hk => hk.2) (.slice none 0 0)) (fun _ hk => (by simp [Value.ownBlock]))⟩, ⟨by first | exact Kd.R_nil _ _ _ _ _ | exact Kd.N_nil _ _ _ _ _ | exact Kd.V_nil _ _ _ _ _ | exact Kd.Q_nil _ _ _ _ _ | exact Kd.S_nil _ _ _ _ _⟩, ⟨by (with_reducible repeat (first | refine blk_drewN ?_ _ | refine blk_drew ?_ | refine blk_alloc ?_ _)); refine blk_far ?_ NB347_356.out _; (with_reducible repeat (first | refine blk_drewN ?_ _ | refine blk_drew ?_ | refine blk_alloc ?_ _)); refine blk_far ?_ NB347_356.out _; (with_reducible repeat (first | refine blk_drewN ?_ _ | refine blk_drew ?_ | refine blk_alloc ?_ _)); refine blk_far ?_ NB347_356.out _; (with_reducible repeat (first | refine blk_drewN ?_ _ | refine blk_drew ?_ | refine blk_alloc ?_ _)); exact BK347.out⟩, ⟨by (with_reducible repeat (first | refine blk_drewN ?_ _ | refine blk_drew ?_ | refine blk_alloc ?_ _)); refine blk_far ?_ NB355_356.out _; (with_reducible repeat (first | refine blk_drewN ?_ _ | refine blk_drew ?_ | refine blk_alloc ?_ _)); refine blk_far ?_ NB355_356.out _; (with_reducible repeat (first | refine blk_drewN ?_ _ | refine blk_drew ?_ | refine blk_alloc ?_ _)); refine blk_far ?_ NB355_356.out _; (with_reducible repeat (first | refine blk_drewN ?_ _ | refine blk_drew ?_ | refine blk_alloc ?_ _)); exact BK355.out⟩, ⟨by (with_reducible repeat (first | refine blk_drewN ?_ _ | refine blk_drew ?_ | refine blk_alloc ?_ _)); refine blk_put (cs := #[.string t349, .string t350, .slice none 0 0]) ?_ 2 _ rfl; (with_reducible repeat (first | refine blk_drewN ?_ _ | refine blk_drew ?_ | refine blk_alloc ?_ _)); refine blk_put (cs := #[.string t349, .string (⟨#[]⟩ : ByteArray), .slice none 0 0]) ?_ 1 _ rfl; (with_reducible repeat (first | refine blk_drewN ?_ _ | refine blk_drew ?_ | refine blk_alloc ?_ _)); refine blk_put (cs := #[.string (⟨#[]⟩ : ByteArray), .string (⟨#[]⟩ : ByteArray), .slice none 0 0]) ?_ 0 _ rfl; (with_reducible repeat (first | refine blk_drewN ?_ _ | refine blk_drew ?_ | refine blk_alloc ?_ _)); exact BK356.out⟩, ⟨by repeat (first | (with_reducible first | exact HB.out | apply below_alloc | apply pw_below_drewN | apply below_drew1 | refine below_set ?_ GE347.out | refine below_set ?_ GE355.out | refine below_set ?_ GE356.out) | exact HB.out)⟩⟩
              case round =>
                clear H'
                try clear c1
                try clear c2
                try clear p2
                try clear c5
                try clear p6
                try clear c7
                try clear c8
                try clear c11
                try clear c14
                try clear c15
                try clear c15b0
                try clear c15b1
                try clear c16
                try clear c18
                try clear c20
                try clear c20b0
                try clear c21
                try clear c21b0
                try clear c21b1
                try clear c21b2
                try clear c22
                try clear c25
                try clear c26
                try clear hcz12_0
                try clear hcz12_1
                try clear hcz12_2
                try clear hcz17_0
                try clear hcz17_1
                try clear hcz17_2
                try clear hcz23_0
                try clear hcz23_1
                try clear hcz23_2
                try clear hcz27_0
                try clear hcz27_1
                try clear hcz27_2
                try clear hcz8_0
                try clear hcz8_1
                try clear hcz8_2
                try clear hfz12_0
                try clear hfz12_1
                try clear hfz12_2
                try clear hfz17_0
                try clear hfz17_1
                try clear hfz17_2
                try clear hfz23_0
                try clear hfz23_1
                try clear hfz23_2
                try clear hfz27_0
                try clear hfz27_1
                try clear hfz27_2
                try clear hfz8_0
                try clear hfz8_1
                try clear hfz8_2
                try clear p2
                try clear p6
                obtain ⟨x9_3, x357002_3, u357002, rfl, HA, HK3, HO_356002, HO_357002, BK347, BK355, BK356, HB⟩ := hrel
                cases gk with
                | zero => exact absurd HA.out (by simp [majordomolaw06_ResourceTold.l0])
                | succ k3 =>
                  have H := HA.out
                  clear HA
                  simp only [majordomolaw06_ResourceTold.l0] at H
                  by_cases c28 : x9_3 < (t351.length : Int)
                  · rw [if_pos c28] at H
                    have c28b0 : decide (x9_3 < (t351.length : Int)) = true := decide_eq_true c28
                    clear c28
                    by_cases c29 : x9_3 = (Int.tmod x1_18 (t351.length : Int))
                    · rw [if_pos c29] at H
                      have c29b0 : (x9_3 == (Int.tmod x1_18 (t351.length : Int))) = true := beq_iff_eq.mpr c29
                      have c29b1 : (x9_3 != (Int.tmod x1_18 (t351.length : Int))) = false := bne_eq_false_iff_eq.mpr c29
                      clear c29
                      have H' := Aside0.mk H
                      clear H
                      have hnb30 := NB355_347.out
                      have hnc30 := NB347_355.out
                      have hnb31 := NB355_356.out
                      have hnc31 := NB356_355.out
                      have hcz32_0 : wr.cell? ⟨gb355, 0, none⟩ = some (.string t349) := (blk_cell BK355.out 0).trans rfl
                      have hcz32_1 : wr.cell? ⟨gb355, 1, none⟩ = some (.string t350) := (blk_cell BK355.out 1).trans rfl
                      have hcz32_2 : wr.cell? ⟨gb355, 2, none⟩ = some (.slice Ao13 t351.length co13) := (blk_cell BK355.out 2).trans rfl
                      have hfz32_0 := blk_frozen BK355.out 0
                      have hfz32_1 := blk_frozen BK355.out 1
                      have hfz32_2 := blk_frozen BK355.out 2
                      go_wp2
                      go_roundg k3
                      case measure => have := HJ4.out; have := HJ18.out; have := HK3.out; omega
                      case rel => exact ⟨(wrap64 (x9_3 + 1)), (x357002_3), (u357002), (by first | rfl | (simp; done) | (simp [*]; done)), H', ⟨by have := HJ4.out; have := HJ18.out; have := HK3.out; omega⟩, ⟨by (with_reducible repeat (first | apply Kd.R_alloc | apply Kd.R_drewN | apply Kd.R_drew)); exact HO_356002.out⟩, ⟨by (with_reducible repeat (first | apply Kd.R_alloc | apply Kd.R_drewN | apply Kd.R_drew)); exact HO_357002.out⟩, ⟨by (with_reducible repeat (first | refine blk_drewN ?_ _ | refine blk_drew ?_ | refine blk_alloc ?_ _)); exact BK347.out⟩, ⟨by (with_reducible repeat (first | refine blk_drewN ?_ _ | refine blk_drew ?_ | refine blk_alloc ?_ _)); exact BK355.out⟩, ⟨by (with_reducible repeat (first | refine blk_drewN ?_ _ | refine blk_drew ?_ | refine blk_alloc ?_ _)); exact BK356.out⟩, ⟨by repeat (first | (with_reducible first | exact HB.out | apply below_alloc | apply pw_below_drewN | apply below_drew1 | refine below_set ?_ GE347.out | refine below_set ?_ GE355.out | refine below_set ?_ GE356.out) | exact HB.out)⟩⟩
                    · rw [if_neg c29] at H
                      have c29b0 : (x9_3 == (Int.tmod x1_18 (t351.length : Int))) = false := beq_eq_false_iff_ne.mpr c29
                      have c29b1 : (x9_3 != (Int.tmod x1_18 (t351.length : Int))) = true := bne_iff_ne.mpr c29
                      by_cases c33 : 0 ≤ x9_3
                      · rw [if_pos c33] at H
                        have c33b0 : decide (0 ≤ x9_3) = true := decide_eq_true c33
                        clear c33
                        by_cases c34 : x357002_3.length < 4398046511104
                        · rw [if_pos c34] at H
                          have LMc34 := Aside0.mk c34
                          clear c34
                          obtain ⟨y358, hy358⟩ : ∃ y_ : List (S34), y_ = (x357002_3 ++ [(⟨(rd_T34 t351 x9_3).f0, (rd_T34 t351 x9_3).f1⟩ : S34)]) := ⟨_, rfl⟩
                          replace H : (majordomolaw06_ResourceTold.l0 k3 (Int.tmod x1_18 (t351.length : Int)) (wrap64 (x9_3 + 1)) t349 t350 t351 t349 t350 y358) = some r := by first | (rw [hy358]; with_reducible exact H) | (have H2_ := (Option.bind_some _ _).symm.trans H; rw [hy358]; with_reducible exact H2_) | (have H2_ := (Option.bind_some _ _).symm.trans H; with_reducible exact H2_) | with_reducible exact H | (rw [hy358]; exact H) | exact H
                          have Ny358 := Aside0.mk hy358
                          clear hy358
                          have H' := Aside0.mk H
                          clear H
                          have hnb35 := NB355_347.out
                          have hnc35 := NB347_355.out
                          have hnb36 := NB355_356.out
                          have hnc36 := NB356_355.out
                          have hcz37_0 : wr.cell? ⟨gb355, 0, none⟩ = some (.string t349) := (blk_cell BK355.out 0).trans rfl
                          have hcz37_1 : wr.cell? ⟨gb355, 1, none⟩ = some (.string t350) := (blk_cell BK355.out 1).trans rfl
                          have hcz37_2 : wr.cell? ⟨gb355, 2, none⟩ = some (.slice Ao13 t351.length co13) := (blk_cell BK355.out 2).trans rfl
                          have hfz37_0 := blk_frozen BK355.out 0
                          have hfz37_1 := blk_frozen BK355.out 1
                          have hfz37_2 := blk_frozen BK355.out 2
                          try go_wp2
                          have n0_ := Aside0.mk (Kd.R_drew HO_356002.out)
                          have n1_ := Aside0.mk (Kd.R_drew HO_357002.out)
                          have n2_ := Aside0.mk (blk_drew BK347.out)
                          have n3_ := Aside0.mk (blk_drew BK355.out)
                          have n4_ := Aside0.mk (blk_drew BK356.out)
                          have n5_ := Aside0.mk (below_drew1 HB.out)
                          clear HO_356002
                          clear HO_357002
                          clear BK347
                          clear BK355
                          clear BK356
                          clear HB
                          have HO_356002 := n0_
                          have HO_357002 := n1_
                          have BK347 := n2_
                          have BK355 := n3_
                          have BK356 := n4_
                          have HB := n5_
                          clear n0_ n1_ n2_ n3_ n4_ n5_
                          have p357 : 0 ≤ (x9_3 : Int) := of_decide_eq_true (by first | (with_reducible assumption) | assumption)
                          have q357 : x9_3 < (t351.length : Int) := of_decide_eq_true (by first | (with_reducible assumption) | assumption)
                          obtain ⟨ad357, e357, hx357_0, hx357_1⟩ := at_T34 (Kd.R_reads' HO_356002.out).2.2 x9_3 p357 q357
                          cases e357
                          replace p357 := eq_true p357
                          replace q357 := eq_true q357
                          refine start_ (n := 11) (S := fun w' => w'.cell? ⟨gb356, 0, none⟩ = some (.string t349) ∧ w'.cell? ⟨gb356, 1, none⟩ = some (.string t350) ∧ w'.cell? ⟨gb356, 2, none⟩ = some (u357002) ∧ w'.cell? ⟨gb355, 0, none⟩ = some (.string t349) ∧ w'.cell? ⟨gb355, 1, none⟩ = some (.string t350) ∧ w'.cell? ⟨gb355, 2, none⟩ = some (.slice (some ad357) t351.length co13) ∧ w'.cell? (ad357.add ((x9_3).toNat * 2)) = some (.string ((rd_T34 t351 x9_3).f0)) ∧ w'.cell? ⟨(ad357.add ((x9_3).toNat * 2)).block, (ad357.add ((x9_3).toNat * 2)).off + 1, none⟩ = some (.string ((rd_T34 t351 x9_3).f1))) (ds := [8, 10]) #[false, false, false, false, false, false, false, false, false, false, false] (by kernel_rfl) rfl rfl ⟨(blk_cell BK356.out 0).trans rfl, (blk_cell BK356.out 1).trans rfl, (blk_cell BK356.out 2).trans rfl, (blk_cell BK355.out 0).trans rfl, (blk_cell BK355.out 1).trans rfl, (blk_cell BK355.out 2).trans rfl, hx357_0, hx357_1⟩ (fun hHeld => ?_); refine with_tabW majordomolaw06_ResourceTold.tab13 majordomolaw06_ResourceTold.bits13 (fun HT_ HW_ => ?_)
                          generalize wr.drew = w38 at HO_356002 HO_357002 BK347 BK355 BK356 HB hx357_0 hx357_1 hHeld ⊢
                          refine pure_ (i := 0) (N := some 62) (v := ?_) (a' := ?_) #[true, false, false, false, false, false, false, false, false, false, false] rfl rfl (any_of HT_.out (by kernel_rfl)) (fun _ _ _ h => h) (Or.inl ⟨by rfl, ?_⟩) ?_ ?_
                          rotate_left
                          · intro w'
                            go_simp
                            with_reducible rfl
                          rotate_left
                          · simp only [Act.put, List.setIfInBounds_toArray, List.set_cons_zero, List.set_cons_succ, i64_w, i32_w]
                            rfl
                          refine pure_ (i := 2) (N := some 64) (v := ?_) (a' := ?_) #[true, false, true, false, false, false, false, false, false, false, false] rfl rfl (any_of HT_.out (by kernel_rfl)) (fun _ _ _ h => h) (Or.inl ⟨by rfl, ?_⟩) ?_ ?_
                          rotate_left
                          · intro w'
                            go_simp
                            with_reducible rfl
                          rotate_left
                          · simp only [Act.put, List.setIfInBounds_toArray, List.set_cons_zero, List.set_cons_succ, i64_w, i32_w]
                            rfl
                          refine pure_ (i := 4) (N := some 66) (v := ?_) (a' := ?_) #[true, false, true, false, true, false, false, false, false, false, false] rfl rfl (any_of HT_.out (by kernel_rfl)) (fun _ _ _ h => h) (Or.inl ⟨by rfl, ?_⟩) ?_ ?_
                          rotate_left
                          · intro w'
                            go_simp
                            with_reducible rfl
                          rotate_left
                          · simp only [Act.put, List.setIfInBounds_toArray, List.set_cons_zero, List.set_cons_succ, i64_w, i32_w]
                            rfl
                          refine take_ (i := 1) (N := some 63) (v := ?_) (a' := ?_) #[true, true, true, false, true, false, false, false, false, false, false] rfl rfl (take_ofW HT_.out HW_.out (by kernel_rfl)) (fun _ _ _ h => h) (Or.inl ⟨by rfl, ?_⟩) hHeld ?_ ?_
                          rotate_left
                          · rintro w' ⟨s0, s1, s2, s3, s4, s5, s6, s7⟩
                            go_simp
                            with_reducible rfl
                          rotate_left
                          · simp only [Act.put, List.setIfInBounds_toArray, List.set_cons_zero, List.set_cons_succ, i64_w, i32_w]
                            rfl
                          refine take_ (i := 3) (N := some 65) (v := ?_) (a' := ?_) #[true, true, true, true, true, false, false, false, false, false, false] rfl rfl (take_ofW HT_.out HW_.out (by kernel_rfl)) (fun _ _ _ h => h) (Or.inl ⟨by rfl, ?_⟩) hHeld ?_ ?_
                          rotate_left
                          · rintro w' ⟨s0, s1, s2, s3, s4, s5, s6, s7⟩
                            go_simp
                            with_reducible rfl
                          rotate_left
                          · simp only [Act.put, List.setIfInBounds_toArray, List.set_cons_zero, List.set_cons_succ, i64_w, i32_w]
                            rfl
                          refine pure_ (i := 5) (N := some 67) (v := ?_) (a' := ?_) #[true, true, true, true, true, true, false, false, false, false, false] rfl rfl (any_of HT_.out (by kernel_rfl)) (fun _ _ _ h => h) (Or.inl ⟨by rfl, ?_⟩) ?_ ?_
                          rotate_left
                          · intro w'
                            go_simp
                            with_reducible rfl
                          rotate_left
                          · simp only [Act.put, List.setIfInBounds_toArray, List.set_cons_zero, List.set_cons_succ, i64_w, i32_w]
                            rfl
                          refine take_ (i := 6) (N := some 68) (v := ?_) (a' := ?_) #[true, true, true, true, true, true, true, false, false, false, false] rfl rfl (take_ofW HT_.out HW_.out (by kernel_rfl)) (fun _ _ _ h => h) (Or.inl ⟨by rfl, ?_⟩) hHeld ?_ ?_
                          rotate_left
                          · rintro w' ⟨s0, s1, s2, s3, s4, s5, s6, s7⟩
                            go_simp
                            with_reducible rfl
                          rotate_left
                          · simp only [Act.put, List.setIfInBounds_toArray, List.set_cons_zero, List.set_cons_succ, i64_w, i32_w]
                            rfl
                          refine one_ (i := 7) (N := some 69) #[true, true, true, true, true, true, true, true, false, false, false] rfl rfl (one_of HT_.out (by kernel_rfl)) (by decide) (fun K hK => ?_)
                          refine value_ (w1 := ?_) (v := ?_) (by rfl) rfl ?_ ?_
                          rotate_left 2
                          · go_simp
                            constructor
                            · rfl
                            · rfl
                          refine hK.out _ _ ⟨(blk_cell (blk_alloc BK356.out _) 0).trans rfl, (blk_cell (blk_alloc BK356.out _) 1).trans rfl, (blk_cell (blk_alloc BK356.out _) 2).trans rfl, (blk_cell (blk_alloc BK355.out _) 0).trans rfl, (blk_cell (blk_alloc BK355.out _) 1).trans rfl, (blk_cell (blk_alloc BK355.out _) 2).trans rfl, (World.cell?_alloc_lt _ _ _ (World.block_lt_of_cell? _ _ (hHeld.2.2.2.2.2.2.1))).trans (hHeld.2.2.2.2.2.2.1), (World.cell?_alloc_lt _ _ _ (World.block_lt_of_cell? _ _ (hHeld.2.2.2.2.2.2.2))).trans (hHeld.2.2.2.2.2.2.2)⟩ (fun hHeld => ?_)
                          clear hK K
                          refine norm_ (a' := ?_) ?_ ?_
                          rotate_left
                          · show Act.put _ (some 69) _ = _
                            simp only [Act.put, List.setIfInBounds_toArray, List.set_cons_zero, List.set_cons_succ, i64_w, i32_w]
                            rfl
                          refine last_ (i := 8) (N := some 70) #[true, true, true, true, true, true, true, true, true, false, false] rfl rfl (one_of HT_.out (by kernel_rfl)) (by decide) (fun K hK => ?_)
                          refine Kd.R_append_step k34 (w0 := w) w.heap.size (by rfl) (.tmp 63) (.tmp 69) 22 34 (.agg #[(.string ⟨#[]⟩), (.string ⟨#[]⟩)]) 32 rfl Tryd.underlying22 info34 rfl (by decide) (by omega) u357002 x357002_3 (⟨(rd_T34 t351 x9_3).f0, (rd_T34 t351 x9_3).f1⟩ : S34) [.string ((rd_T34 t351 x9_3).f0), .string ((rd_T34 t351 x9_3).f1)] (fun k_ => some k_ ≠ (.slice (some ad357) t351.length co13 : Value).ownBlock) (fun _ => False) rfl rfl ?aP (fun _ hk => hk.elim) ?aF ?aO ?aB ?aS ?aL ?_
                          (case aP => exact k34_mkM _ _ _ (⟨(rd_T34 t351 x9_3).f0, (rd_T34 t351 x9_3).f1⟩ : S34))
                          (case aB => exact (by repeat (first | (with_reducible first | exact HB.out | apply below_alloc | apply pw_below_drewN | apply below_drew1 | refine below_set ?_ GE347.out | refine below_set ?_ GE355.out | refine below_set ?_ GE356.out) | exact HB.out)))
                          (case aF => exact (fun k_ hk => Kd.fresh' (Kd.R_lt (by (with_reducible repeat (first | apply Kd.R_alloc | apply Kd.R_drewN | apply Kd.R_drew)); exact HO_356002.out)) k_ hk))
                          (case aO => exact (by (with_reducible repeat (first | apply Kd.R_alloc | apply Kd.R_drewN | apply Kd.R_drew)); exact HO_357002.out))
                          (case aS => exact (below_size (by repeat (first | (with_reducible first | exact HB.out | apply below_alloc | apply pw_below_drewN | apply below_drew1 | refine below_set ?_ GE347.out | refine below_set ?_ GE355.out | refine below_set ?_ GE356.out) | exact HB.out))))
                          (case aL => have := LMc34.out; omega)
                          intro v359 w39 ho hb hg hat
                          rw [← Ny358.out] at ho
                          have n0_ := Aside0.mk (Kd.R_after (ok := (fun _ => True)) (by (with_reducible repeat (first | apply Kd.R_alloc | apply Kd.R_drewN | apply Kd.R_drew)); exact Kd.R_mono HO_356002.out (fun _ hk => ⟨trivial, hk⟩)) hg hat)
                          have n1_ := Aside0.mk (blk_grown (g := gb347) (o := .cells #[.string a0_0, .string a0_1, .slice A0_2 l0_2.length c0_2] 24 (0, 0)) (by (with_reducible repeat (first | refine blk_drewN ?_ _ | refine blk_drew ?_ | refine blk_alloc ?_ _)); exact BK347.out) hg (Kd.R_ne HO_357002.out BK347.out (by decide)))
                          have n2_ := Aside0.mk (blk_grown (g := gb355) (o := .cells #[.string t349, .string t350, .slice (some ad357) t351.length co13] 24 (0, 0)) (by (with_reducible repeat (first | refine blk_drewN ?_ _ | refine blk_drew ?_ | refine blk_alloc ?_ _)); exact BK355.out) hg (Kd.R_ne HO_357002.out BK355.out (by decide)))
                          have n3_ := Aside0.mk (blk_grown (g := gb356) (o := .cells #[.string t349, .string t350, u357002] 24 (0, 0)) (by (with_reducible repeat (first | refine blk_drewN ?_ _ | refine blk_drew ?_ | refine blk_alloc ?_ _)); exact BK356.out) hg (Kd.R_ne HO_357002.out BK356.out (by decide)))
                          have n4_ := Aside0.mk (hb)
                          have n5_ := Aside0.mk (ho)
                          clear HO_356002
                          clear BK347
                          clear BK355
                          clear BK356
                          clear HB
                          clear HO_357002
                          have HO_356002 := n0_
                          have BK347 := n1_
                          have BK355 := n2_
                          have BK356 := n3_
                          have HB := n4_
                          have HO360 := n5_
                          clear n0_ n1_ n2_ n3_ n4_ n5_
                          clear ho hb hg hat
                          obtain ⟨Ao40, co40, eo40⟩ := Kd.R_slice HO360.out
                          (first | subst eo40 | (injection eo40 with f1_ f2_ f3_; have f4_ := f1_.symm; have f5_ := f3_.symm; clear f1_ f2_ f3_; subst f4_; subst f5_))
                          refine hK.out _ _ ?_
                          clear hK K
                          refine norm_ (a' := ?_) ?_ ?_
                          rotate_left
                          · show Act.put _ (some 70) _ = _
                            simp only [Act.put, List.setIfInBounds_toArray, List.set_cons_zero, List.set_cons_succ, i64_w, i32_w]
                            rfl
                          refine pure_ (i := 9) (N := some 71) (v := ?_) (a' := ?_) #[true, true, true, true, true, true, true, true, true, true, false] rfl rfl (any_of HT_.out (by kernel_rfl)) (fun _ _ _ h => h) (Or.inl ⟨by rfl, ?_⟩) ?_ ?_
                          rotate_left
                          · intro w'
                            go_simp
                            with_reducible rfl
                          rotate_left
                          · simp only [Act.put, List.setIfInBounds_toArray, List.set_cons_zero, List.set_cons_succ, i64_w, i32_w]
                            rfl
                          refine last_ (i := 10) (N := none) #[true, true, true, true, true, true, true, true, true, true, true] rfl rfl (one_of HT_.out (by kernel_rfl)) (by decide) (fun K hK => ?_)
                          have hs41 : w39.cell? ⟨gb356, 2, none⟩ = some (u357002) := (blk_cell BK356.out 2).trans rfl
                          have hfs41 := blk_frozen BK356.out 2
                          have hns41_0 := NB347_356.out
                          have hns41_1 := NB355_356.out
                          have hms41_0 := NB356_347.out
                          have hms41_1 := NB356_355.out
                          refine skip_ (w1 := ?_) (by rfl) rfl ?_ ?_
                          rotate_left
                          · go_simp
                            rfl
                          refine hK.out _ _ ?_
                          clear hK K
                          refine done_ (done_of HT_.out (by kernel_rfl)) ?_
                          try go_wp2
                          go_roundg k3
                          case measure => have := HJ4.out; have := HJ18.out; have := HK3.out; omega
                          case rel => exact ⟨(wrap64 (x9_3 + 1)), (y358), (.slice Ao40 y358.length co40), (by first | rfl | (simp; done) | (simp [*]; done)), H', ⟨by have := HJ4.out; have := HJ18.out; have := HK3.out; omega⟩, ⟨by (with_reducible repeat (first | apply Kd.R_alloc | apply Kd.R_drewN | apply Kd.R_drew)); exact Kd.R_mono (Kd.R_far (p := ⟨gb356, 2, none⟩) (Kd.R_types HO_356002.out BK356.out (by decide)) (fun _ hk => hk.2) (.slice Ao40 y358.length co40)) (fun _ hk => hk.1.2)⟩, ⟨by (with_reducible repeat (first | apply Kd.R_alloc | apply Kd.R_drewN | apply Kd.R_drew)); exact Kd.R_mono (Kd.R_far (p := ⟨gb356, 2, none⟩) (Kd.R_types HO360.out BK356.out (by decide)) (fun _ hk => hk.2) (.slice Ao40 y358.length co40)) (fun _ hk => hk.1)⟩, ⟨by (with_reducible repeat (first | refine blk_drewN ?_ _ | refine blk_drew ?_ | refine blk_alloc ?_ _)); refine blk_far ?_ NB347_356.out _; (with_reducible repeat (first | refine blk_drewN ?_ _ | refine blk_drew ?_ | refine blk_alloc ?_ _)); exact BK347.out⟩, ⟨by (with_reducible repeat (first | refine blk_drewN ?_ _ | refine blk_drew ?_ | refine blk_alloc ?_ _)); refine blk_far ?_ NB355_356.out _; (with_reducible repeat (first | refine blk_drewN ?_ _ | refine blk_drew ?_ | refine blk_alloc ?_ _)); exact BK355.out⟩, ⟨by (with_reducible repeat (first | refine blk_drewN ?_ _ | refine blk_drew ?_ | refine blk_alloc ?_ _)); refine blk_put (cs := #[.string t349, .string t350, u357002]) ?_ 2 _ rfl; (with_reducible repeat (first | refine blk_drewN ?_ _ | refine blk_drew ?_ | refine blk_alloc ?_ _)); exact BK356.out⟩, ⟨by repeat (first | (with_reducible first | exact HB.out | apply below_alloc | apply pw_below_drewN | apply below_drew1 | refine below_set ?_ GE347.out | refine below_set ?_ GE355.out | refine below_set ?_ GE356.out) | exact HB.out)⟩⟩
                        · rw [if_neg c34] at H
                          exact absurd H (by simp)
                      · rw [if_neg c33] at H
                        exact absurd H (by simp)
                  · rw [if_neg c28] at H
                    have c28b0 : decide (x9_3 < (t351.length : Int)) = false := decide_eq_false c28
                    clear c28
                    replace H := Option.bind_eq_some_iff.mp H
                    obtain ⟨⟨t361, t362, t363, t366⟩, A420, H⟩ := H
                    replace H : (if t366 = 0 then (if 0 ≤ (Int.tmod x1_18 (t351.length : Int)) then (if (Int.tmod x1_18 (t351.length : Int)) < (t351.length : Int) then ((resource_Get.f k3 t361 t362 t363 ((rd_T34 t351 (Int.tmod x1_18 (t351.length : Int))).f0)).bind fun bt369 => ((resource_Get.f k3 t349 t350 t351 ((rd_T34 t351 (Int.tmod x1_18 (t351.length : Int))).f0)).bind fun bt372 => (if bt369.2 = true then (majordomolaw06_ResourceTold.j3 k3 (bt369.1.toList != bt372.1.toList) t349 t350 t351 t361 t362 t363) else (majordomolaw06_ResourceTold.j3 k3 true t349 t350 t351 t361 t362 t363)))) else (none)) else (none)) else (some (t366 == 62))) = some r := H
                    have A42 := Aside0.mk A420
                    clear A420
                    by_cases c43 : t366 = 0
                    · rw [if_pos c43] at H
                      have c43b0 : (t366 == 0) = true := beq_iff_eq.mpr c43
                      have c43b1 : (t366 != 0) = false := bne_eq_false_iff_eq.mpr c43
                      clear c43
                      obtain ⟨ji44, hji44⟩ : ∃ j_ : Int, (Int.tmod x1_18 (t351.length : Int)) = j_ := ⟨_, rfl⟩
                      replace H : (if 0 ≤ (ji44) then (if (ji44) < (t351.length : Int) then ((resource_Get.f k3 t361 t362 t363 ((rd_T34 t351 (ji44)).f0)).bind fun bt369 => ((resource_Get.f k3 t349 t350 t351 ((rd_T34 t351 (ji44)).f0)).bind fun bt372 => (if bt369.2 = true then (majordomolaw06_ResourceTold.j3 k3 (bt369.1.toList != bt372.1.toList) t349 t350 t351 t361 t362 t363) else (majordomolaw06_ResourceTold.j3 k3 true t349 t350 t351 t361 t362 t363)))) else (none)) else (none)) = some r := by first | (rw [hji44] at H; exact H) | (simp only [hji44] at H ⊢; exact H)
                      (try rw [hji44] at A42)
                      by_cases c45 : 0 ≤ (ji44)
                      · rw [if_pos c45] at H
                        have c45b0 : decide (0 ≤ (ji44)) = true := decide_eq_true c45
                        clear c45
                        by_cases c46 : (ji44) < (t351.length : Int)
                        · rw [if_pos c46] at H
                          have c46b0 : decide ((ji44) < (t351.length : Int)) = true := decide_eq_true c46
                          clear c46
                          replace H := Option.bind_eq_some_iff.mp H
                          obtain ⟨⟨t369, t370⟩, A470, H⟩ := H
                          replace H : ((resource_Get.f k3 t349 t350 t351 ((rd_T34 t351 (ji44)).f0)).bind fun bt372 => (if t370 = true then (majordomolaw06_ResourceTold.j3 k3 (t369.toList != bt372.1.toList) t349 t350 t351 t361 t362 t363) else (majordomolaw06_ResourceTold.j3 k3 true t349 t350 t351 t361 t362 t363))) = some r := H
                          have A47 := Aside0.mk A470
                          clear A470
                          replace H := Option.bind_eq_some_iff.mp H
                          obtain ⟨⟨t372, t373⟩, A480, H⟩ := H
                          replace H : (if t370 = true then (majordomolaw06_ResourceTold.j3 k3 (t369.toList != t372.toList) t349 t350 t351 t361 t362 t363) else (majordomolaw06_ResourceTold.j3 k3 true t349 t350 t351 t361 t362 t363)) = some r := H
                          have A48 := Aside0.mk A480
                          clear A480
                          have HC49 := Aside0.mk H
                          clear H
                          have hnb50 := NB355_347.out
                          have hnc50 := NB347_355.out
                          have hnb51 := NB355_356.out
                          have hnc51 := NB356_355.out
                          have hcz52_0 : wr.cell? ⟨gb355, 0, none⟩ = some (.string t349) := (blk_cell BK355.out 0).trans rfl
                          have hcz52_1 : wr.cell? ⟨gb355, 1, none⟩ = some (.string t350) := (blk_cell BK355.out 1).trans rfl
                          have hcz52_2 : wr.cell? ⟨gb355, 2, none⟩ = some (.slice Ao13 t351.length co13) := (blk_cell BK355.out 2).trans rfl
                          have hfz52_0 := blk_frozen BK355.out 0
                          have hfz52_1 := blk_frozen BK355.out 1
                          have hfz52_2 := blk_frozen BK355.out 2
                          have hnb53 := NB356_347.out
                          have hnc53 := NB347_356.out
                          have hcz54_0 : wr.cell? ⟨gb356, 0, none⟩ = some (.string t349) := (blk_cell BK356.out 0).trans rfl
                          have hcz54_1 : wr.cell? ⟨gb356, 1, none⟩ = some (.string t350) := (blk_cell BK356.out 1).trans rfl
                          have hcz54_2 : wr.cell? ⟨gb356, 2, none⟩ = some (u357002) := (blk_cell BK356.out 2).trans rfl
                          have hfz54_0 := blk_frozen BK356.out 0
                          have hfz54_1 := blk_frozen BK356.out 1
                          have hfz54_2 := blk_frozen BK356.out 2
                          obtain ⟨Ao55, co55, eo55⟩ := Kd.R_slice HO_357002.out
                          subst eo55
                          try go_wp2_with (first | ((with_reducible refine gate_callee (f := 8) rfl ?_); refine goesL_ (some 74) rfl rfl Tryd.func8 (by kernel_rfl) rfl #[.agg #[.string t349, .string t350, .slice Ao55 x357002_3.length co55]] rfl (by (try simp only [List.map_toArray, List.map_cons, List.map_nil]); first | done | rfl | (simp only [List.length_drop, List.length_take]; rfl)) ?_; (with_reducible refine (resource_Full.calls t349 t350 _ _ x357002_3 t361 t362 t363 t366 _ ?side1 ?side2 A42.out (UtfOk.of_below HU.out (by repeat (first | (with_reducible first | exact HB.out | apply below_alloc | apply pw_below_drewN | apply below_drew1 | refine below_set ?_ GE347.out | refine below_set ?_ GE355.out | refine below_set ?_ GE356.out) | exact HB.out)))).mono ?_); (case side1 => repeat (first | exact (Kd.R_reads' HO_357002.out).2.2 | (with_reducible refine Kd.C_alloc ?_ _) | (with_reducible refine Kd.C_drewN ?_ _) | (with_reducible refine Kd.C_drew ?_))); (case side2 => exact (Kd.R_reads' HO_357002.out).2.1); rintro e w56 ⟨v364, rfl, ho0, hb⟩; refine ⟨_, rfl, ?_⟩; have n0_ := Aside0.mk (Kd.R_elder' (by (with_reducible repeat (first | apply Kd.R_alloc | apply Kd.R_drewN | apply Kd.R_drew)); exact HO_356002.out) (Kd.R_base ho0) hb); have n1_ := Aside0.mk (Kd.R_elder' (by (with_reducible repeat (first | apply Kd.R_alloc | apply Kd.R_drewN | apply Kd.R_drew)); exact HO_357002.out) (Kd.R_base ho0) hb); have n2_ := Aside0.mk (Kd.R_lower (Kd.R_new' (Kd.R_new' ho0 (Kd.R_lt (by (with_reducible repeat (first | apply Kd.R_alloc | apply Kd.R_drewN | apply Kd.R_drew)); exact HO_356002.out))) (Kd.R_lt (by (with_reducible repeat (first | apply Kd.R_alloc | apply Kd.R_drewN | apply Kd.R_drew)); exact HO_357002.out))) (below_size (by repeat (first | (with_reducible first | exact HB.out | apply below_alloc | apply pw_below_drewN | apply below_drew1 | refine below_set ?_ GE347.out | refine below_set ?_ GE355.out | refine below_set ?_ GE356.out) | exact HB.out)))); have n3_ := Aside0.mk (blk_below (g := gb347) (o := .cells #[.string a0_0, .string a0_1, .slice A0_2 l0_2.length c0_2] 24 (0, 0)) (by (with_reducible repeat (first | refine blk_drewN ?_ _ | refine blk_drew ?_ | refine blk_alloc ?_ _)); exact BK347.out) hb); have n4_ := Aside0.mk (blk_below (g := gb355) (o := .cells #[.string t349, .string t350, .slice Ao13 t351.length co13] 24 (0, 0)) (by (with_reducible repeat (first | refine blk_drewN ?_ _ | refine blk_drew ?_ | refine blk_alloc ?_ _)); exact BK355.out) hb); have n5_ := Aside0.mk (blk_below (g := gb356) (o := .cells #[.string t349, .string t350, .slice Ao55 x357002_3.length co55] 24 (0, 0)) (by (with_reducible repeat (first | refine blk_drewN ?_ _ | refine blk_drew ?_ | refine blk_alloc ?_ _)); exact BK356.out) hb); have n6_ := Aside0.mk (below_step (by repeat (first | (with_reducible first | exact HB.out | apply below_alloc | apply pw_below_drewN | apply below_drew1 | refine below_set ?_ GE347.out | refine below_set ?_ GE355.out | refine below_set ?_ GE356.out) | exact HB.out)) hb); clear HO_356002; clear HO_357002; clear BK347; clear BK355; clear BK356; clear HB; have HO_356002 := n0_; have HO_357002 := n1_; have HO365 := n2_; have BK347 := n3_; have BK355 := n4_; have BK356 := n5_; have HB := n6_; clear n0_ n1_ n2_ n3_ n4_ n5_ n6_; (try clear hb); (try clear hb2); (try clear hk); (try clear hi); (try clear ho0)) | ((with_reducible refine gate_dst (N := 10) rfl ?_); (try (refine gate_guard (by rfl) ?_; dsimp only)); refine box_event ?hg (N := 10) ?hd (cs := #[.string (⟨#[]⟩ : ByteArray), .string (⟨#[]⟩ : ByteArray), .slice none 0 0]) (t := 24) ?hr ?_; (case hd => rfl); (case hg => rfl); (case hr => first | (go_simp; done) | (go_simp; rfl)); intro gb367 hg w57 hbox hb; have n0_ := Aside0.mk (Kd.R_below (by (with_reducible repeat (first | apply Kd.R_alloc | apply Kd.R_drewN | apply Kd.R_drew)); exact HO_356002.out) hb); have n1_ := Aside0.mk (Kd.R_below (by (with_reducible repeat (first | apply Kd.R_alloc | apply Kd.R_drewN | apply Kd.R_drew)); exact HO_357002.out) hb); have n2_ := Aside0.mk (Kd.R_below (by (with_reducible repeat (first | apply Kd.R_alloc | apply Kd.R_drewN | apply Kd.R_drew)); exact HO365.out) hb); have n3_ := Aside0.mk (blk_below (g := gb347) (o := .cells #[.string a0_0, .string a0_1, .slice A0_2 l0_2.length c0_2] 24 (0, 0)) (by (with_reducible repeat (first | refine blk_drewN ?_ _ | refine blk_drew ?_ | refine blk_alloc ?_ _)); exact BK347.out) hb); have n4_ := Aside0.mk (blk_below (g := gb355) (o := .cells #[.string t349, .string t350, .slice Ao13 t351.length co13] 24 (0, 0)) (by (with_reducible repeat (first | refine blk_drewN ?_ _ | refine blk_drew ?_ | refine blk_alloc ?_ _)); exact BK355.out) hb); have n5_ := Aside0.mk (blk_below (g := gb356) (o := .cells #[.string t349, .string t350, .slice Ao55 x357002_3.length co55] 24 (0, 0)) (by (with_reducible repeat (first | refine blk_drewN ?_ _ | refine blk_drew ?_ | refine blk_alloc ?_ _)); exact BK356.out) hb); have n6_ := Aside0.mk (below_step (by repeat (first | (with_reducible first | exact HB.out | apply below_alloc | apply pw_below_drewN | apply below_drew1 | refine below_set ?_ GE347.out | refine below_set ?_ GE355.out | refine below_set ?_ GE356.out) | exact HB.out)) hb); have n7_ := Aside0.mk (hbox); have n8_ := Aside0.mk ((by rw [hg]; exact (below_size (by repeat (first | (with_reducible first | exact HB.out | apply below_alloc | apply pw_below_drewN | apply below_drew1 | refine below_set ?_ GE347.out | refine below_set ?_ GE355.out | refine below_set ?_ GE356.out) | exact HB.out))) : w.heap.size ≤ gb367)); have n9_ := Aside0.mk ((by rw [hg]; exact (below_size (by repeat (first | (with_reducible first | exact HB.out | apply below_alloc | apply pw_below_drewN | apply below_drew1 | refine below_set ?_ GE347.out | refine below_set ?_ GE355.out | refine below_set ?_ GE356.out) | exact HB.out))) : w.heap.size ≤ gb367)); have n10_ := Aside0.mk ((by rw [hg]; exact Nat.ne_of_lt (blk_lt (g := gb347) (o := .cells #[.string a0_0, .string a0_1, .slice A0_2 l0_2.length c0_2] 24 (0, 0)) (by (with_reducible repeat (first | refine blk_drewN ?_ _ | refine blk_drew ?_ | refine blk_alloc ?_ _)); exact BK347.out)) : gb347 ≠ gb367)); have n11_ := Aside0.mk ((by rw [hg]; exact Nat.ne_of_gt (blk_lt (g := gb347) (o := .cells #[.string a0_0, .string a0_1, .slice A0_2 l0_2.length c0_2] 24 (0, 0)) (by (with_reducible repeat (first | refine blk_drewN ?_ _ | refine blk_drew ?_ | refine blk_alloc ?_ _)); exact BK347.out)) : gb367 ≠ gb347)); have n12_ := Aside0.mk ((by rw [hg]; exact Nat.ne_of_lt (blk_lt (g := gb355) (o := .cells #[.string t349, .string t350, .slice Ao13 t351.length co13] 24 (0, 0)) (by (with_reducible repeat (first | refine blk_drewN ?_ _ | refine blk_drew ?_ | refine blk_alloc ?_ _)); exact BK355.out)) : gb355 ≠ gb367)); have n13_ := Aside0.mk ((by rw [hg]; exact Nat.ne_of_gt (blk_lt (g := gb355) (o := .cells #[.string t349, .string t350, .slice Ao13 t351.length co13] 24 (0, 0)) (by (with_reducible repeat (first | refine blk_drewN ?_ _ | refine blk_drew ?_ | refine blk_alloc ?_ _)); exact BK355.out)) : gb367 ≠ gb355)); have n14_ := Aside0.mk ((by rw [hg]; exact Nat.ne_of_lt (blk_lt (g := gb356) (o := .cells #[.string t349, .string t350, .slice Ao55 x357002_3.length co55] 24 (0, 0)) (by (with_reducible repeat (first | refine blk_drewN ?_ _ | refine blk_drew ?_ | refine blk_alloc ?_ _)); exact BK356.out)) : gb356 ≠ gb367)); have n15_ := Aside0.mk ((by rw [hg]; exact Nat.ne_of_gt (blk_lt (g := gb356) (o := .cells #[.string t349, .string t350, .slice Ao55 x357002_3.length co55] 24 (0, 0)) (by (with_reducible repeat (first | refine blk_drewN ?_ _ | refine blk_drew ?_ | refine blk_alloc ?_ _)); exact BK356.out)) : gb367 ≠ gb356)); clear HO_356002; clear HO_357002; clear HO365; clear BK347; clear BK355; clear BK356; clear HB; have HO_356002 := n0_; have HO_357002 := n1_; have HO365 := n2_; have BK347 := n3_; have BK355 := n4_; have BK356 := n5_; have HB := n6_; have BK367 := n7_; have GW367 := n8_; have GE367 := n9_; have NB347_367 := n10_; have NB367_347 := n11_; have NB355_367 := n12_; have NB367_355 := n13_; have NB356_367 := n14_; have NB367_356 := n15_; clear n0_ n1_ n2_ n3_ n4_ n5_ n6_ n7_ n8_ n9_ n10_ n11_ n12_ n13_ n14_ n15_; clear hb hbox hg; have hnb58 := NB367_347.out; have hnc58 := NB347_367.out; have hnb59 := NB367_355.out; have hnc59 := NB355_367.out; have hnb60 := NB367_356.out; have hnc60 := NB356_367.out; have hcz61_0 : w57.cell? ⟨gb367, 0, none⟩ = some (.string (⟨#[]⟩ : ByteArray)) := (blk_cell BK367.out 0).trans rfl; have hcz61_1 : w57.cell? ⟨gb367, 1, none⟩ = some (.string (⟨#[]⟩ : ByteArray)) := (blk_cell BK367.out 1).trans rfl; have hcz61_2 : w57.cell? ⟨gb367, 2, none⟩ = some (.slice none 0 0) := (blk_cell BK367.out 2).trans rfl; have hfz61_0 := blk_frozen BK367.out 0; have hfz61_1 := blk_frozen BK367.out 1; have hfz61_2 := blk_frozen BK367.out 2; obtain ⟨Ao62, co62, eo62⟩ := Kd.R_slice HO365.out; subst eo62))
                          have n0_ : Aside0 (Kd.R k34 34 (((w57.setCell ⟨gb367, 0, none⟩ (.string t361)).setCell ⟨gb367, 1, none⟩ (.string t362)).setCell ⟨gb367, 2, none⟩ (.slice Ao62 t363.length co62)) w.heap.size (fun k_ => some k_ ≠ (.slice Ao55 x357002_3.length co55 : Value).ownBlock ∧ some k_ ≠ (.slice Ao62 t363.length co62 : Value).ownBlock) (.slice Ao13 t351.length co13) t351) := ⟨by (with_reducible repeat (first | apply Kd.R_alloc | apply Kd.R_drewN | apply Kd.R_drew)); exact Kd.R_mono (Kd.R_far (p := ⟨gb367, 2, none⟩) (Kd.R_far (p := ⟨gb367, 1, none⟩) (Kd.R_far (p := ⟨gb367, 0, none⟩) (Kd.R_types HO_356002.out BK367.out (by decide)) (fun _ hk => hk.2) (.string t361)) (fun _ hk => hk.2) (.string t362)) (fun _ hk => hk.2) (.slice Ao62 t363.length co62)) (fun _ hk => ⟨hk.1.1, hk.1.2⟩)⟩
                          have n1_ : Aside0 (Kd.R k34 34 (((w57.setCell ⟨gb367, 0, none⟩ (.string t361)).setCell ⟨gb367, 1, none⟩ (.string t362)).setCell ⟨gb367, 2, none⟩ (.slice Ao62 t363.length co62)) w.heap.size (fun k_ => some k_ ≠ (.slice Ao13 t351.length co13 : Value).ownBlock ∧ some k_ ≠ (.slice Ao62 t363.length co62 : Value).ownBlock) (.slice Ao55 x357002_3.length co55) x357002_3) := ⟨by (with_reducible repeat (first | apply Kd.R_alloc | apply Kd.R_drewN | apply Kd.R_drew)); exact Kd.R_mono (Kd.R_far (p := ⟨gb367, 2, none⟩) (Kd.R_far (p := ⟨gb367, 1, none⟩) (Kd.R_far (p := ⟨gb367, 0, none⟩) (Kd.R_types HO_357002.out BK367.out (by decide)) (fun _ hk => hk.2) (.string t361)) (fun _ hk => hk.2) (.string t362)) (fun _ hk => hk.2) (.slice Ao62 t363.length co62)) (fun _ hk => ⟨hk.1.1, hk.1.2⟩)⟩
                          have n2_ : Aside0 (Kd.R k34 34 (((w57.setCell ⟨gb367, 0, none⟩ (.string t361)).setCell ⟨gb367, 1, none⟩ (.string t362)).setCell ⟨gb367, 2, none⟩ (.slice Ao62 t363.length co62)) w.heap.size (fun k_ => some k_ ≠ (.slice Ao13 t351.length co13 : Value).ownBlock ∧ some k_ ≠ (.slice Ao55 x357002_3.length co55 : Value).ownBlock) (.slice Ao62 t363.length co62) t363) := ⟨by (with_reducible repeat (first | apply Kd.R_alloc | apply Kd.R_drewN | apply Kd.R_drew)); exact Kd.R_mono (Kd.R_far (p := ⟨gb367, 2, none⟩) (Kd.R_far (p := ⟨gb367, 1, none⟩) (Kd.R_far (p := ⟨gb367, 0, none⟩) (Kd.R_types HO365.out BK367.out (by decide)) (fun _ hk => hk.2) (.string t361)) (fun _ hk => hk.2) (.string t362)) (fun _ hk => hk.2) (.slice Ao62 t363.length co62)) (fun _ hk => ⟨hk.1.1.2, hk.1.2⟩)⟩
                          have n3_ : Aside0 ((((w57.setCell ⟨gb367, 0, none⟩ (.string t361)).setCell ⟨gb367, 1, none⟩ (.string t362)).setCell ⟨gb367, 2, none⟩ (.slice Ao62 t363.length co62)).heap[gb347]? = some (.cells #[.string a0_0, .string a0_1, .slice A0_2 l0_2.length c0_2] 24 (0, 0))) := ⟨by (with_reducible repeat (first | refine blk_drewN ?_ _ | refine blk_drew ?_ | refine blk_alloc ?_ _)); refine blk_far ?_ NB347_367.out _; (with_reducible repeat (first | refine blk_drewN ?_ _ | refine blk_drew ?_ | refine blk_alloc ?_ _)); refine blk_far ?_ NB347_367.out _; (with_reducible repeat (first | refine blk_drewN ?_ _ | refine blk_drew ?_ | refine blk_alloc ?_ _)); refine blk_far ?_ NB347_367.out _; (with_reducible repeat (first | refine blk_drewN ?_ _ | refine blk_drew ?_ | refine blk_alloc ?_ _)); exact BK347.out⟩
                          have n4_ : Aside0 ((((w57.setCell ⟨gb367, 0, none⟩ (.string t361)).setCell ⟨gb367, 1, none⟩ (.string t362)).setCell ⟨gb367, 2, none⟩ (.slice Ao62 t363.length co62)).heap[gb355]? = some (.cells #[.string t349, .string t350, .slice Ao13 t351.length co13] 24 (0, 0))) := ⟨by (with_reducible repeat (first | refine blk_drewN ?_ _ | refine blk_drew ?_ | refine blk_alloc ?_ _)); refine blk_far ?_ NB355_367.out _; (with_reducible repeat (first | refine blk_drewN ?_ _ | refine blk_drew ?_ | refine blk_alloc ?_ _)); refine blk_far ?_ NB355_367.out _; (with_reducible repeat (first | refine blk_drewN ?_ _ | refine blk_drew ?_ | refine blk_alloc ?_ _)); refine blk_far ?_ NB355_367.out _; (with_reducible repeat (first | refine blk_drewN ?_ _ | refine blk_drew ?_ | refine blk_alloc ?_ _)); exact BK355.out⟩
                          have n5_ : Aside0 ((((w57.setCell ⟨gb367, 0, none⟩ (.string t361)).setCell ⟨gb367, 1, none⟩ (.string t362)).setCell ⟨gb367, 2, none⟩ (.slice Ao62 t363.length co62)).heap[gb356]? = some (.cells #[.string t349, .string t350, .slice Ao55 x357002_3.length co55] 24 (0, 0))) := ⟨by (with_reducible repeat (first | refine blk_drewN ?_ _ | refine blk_drew ?_ | refine blk_alloc ?_ _)); refine blk_far ?_ NB356_367.out _; (with_reducible repeat (first | refine blk_drewN ?_ _ | refine blk_drew ?_ | refine blk_alloc ?_ _)); refine blk_far ?_ NB356_367.out _; (with_reducible repeat (first | refine blk_drewN ?_ _ | refine blk_drew ?_ | refine blk_alloc ?_ _)); refine blk_far ?_ NB356_367.out _; (with_reducible repeat (first | refine blk_drewN ?_ _ | refine blk_drew ?_ | refine blk_alloc ?_ _)); exact BK356.out⟩
                          have n6_ : Aside0 ((((w57.setCell ⟨gb367, 0, none⟩ (.string t361)).setCell ⟨gb367, 1, none⟩ (.string t362)).setCell ⟨gb367, 2, none⟩ (.slice Ao62 t363.length co62)).heap[gb367]? = some (.cells #[.string t361, .string t362, .slice Ao62 t363.length co62] 24 (0, 0))) := ⟨by (with_reducible repeat (first | refine blk_drewN ?_ _ | refine blk_drew ?_ | refine blk_alloc ?_ _)); refine blk_put (cs := #[.string t361, .string t362, .slice none 0 0]) ?_ 2 _ rfl; (with_reducible repeat (first | refine blk_drewN ?_ _ | refine blk_drew ?_ | refine blk_alloc ?_ _)); refine blk_put (cs := #[.string t361, .string (⟨#[]⟩ : ByteArray), .slice none 0 0]) ?_ 1 _ rfl; (with_reducible repeat (first | refine blk_drewN ?_ _ | refine blk_drew ?_ | refine blk_alloc ?_ _)); refine blk_put (cs := #[.string (⟨#[]⟩ : ByteArray), .string (⟨#[]⟩ : ByteArray), .slice none 0 0]) ?_ 0 _ rfl; (with_reducible repeat (first | refine blk_drewN ?_ _ | refine blk_drew ?_ | refine blk_alloc ?_ _)); exact BK367.out⟩
                          have n7_ : Aside0 (Below w.heap.size w (((w57.setCell ⟨gb367, 0, none⟩ (.string t361)).setCell ⟨gb367, 1, none⟩ (.string t362)).setCell ⟨gb367, 2, none⟩ (.slice Ao62 t363.length co62))) := ⟨by repeat (first | (with_reducible first | exact HB.out | apply below_alloc | apply pw_below_drewN | apply below_drew1 | refine below_set ?_ GE347.out | refine below_set ?_ GE355.out | refine below_set ?_ GE356.out | refine below_set ?_ GE367.out) | exact HB.out)⟩
                          (try clear HO_356002)
                          (try clear HO_357002)
                          (try clear HO365)
                          (try clear BK347)
                          (try clear BK355)
                          (try clear BK356)
                          (try clear BK367)
                          (try clear HB)
                          generalize (((w57.setCell ⟨gb367, 0, none⟩ (.string t361)).setCell ⟨gb367, 1, none⟩ (.string t362)).setCell ⟨gb367, 2, none⟩ (.slice Ao62 t363.length co62)) = w63 at n0_ n1_ n2_ n3_ n4_ n5_ n6_ n7_ ⊢
                          have HO_356002 := n0_
                          have HO_357002 := n1_
                          have HO365 := n2_
                          have BK347 := n3_
                          have BK355 := n4_
                          have BK356 := n5_
                          have BK367 := n6_
                          have HB := n7_
                          clear n0_ n1_ n2_ n3_ n4_ n5_ n6_ n7_
                          have n0_ := Aside0.mk (Kd.R_drew HO_356002.out)
                          have n1_ := Aside0.mk (Kd.R_drew HO_357002.out)
                          have n2_ := Aside0.mk (Kd.R_drew HO365.out)
                          have n3_ := Aside0.mk (blk_drew BK347.out)
                          have n4_ := Aside0.mk (blk_drew BK355.out)
                          have n5_ := Aside0.mk (blk_drew BK356.out)
                          have n6_ := Aside0.mk (blk_drew BK367.out)
                          have n7_ := Aside0.mk (below_drew1 HB.out)
                          clear HO_356002
                          clear HO_357002
                          clear HO365
                          clear BK347
                          clear BK355
                          clear BK356
                          clear BK367
                          clear HB
                          have HO_356002 := n0_
                          have HO_357002 := n1_
                          have HO365 := n2_
                          have BK347 := n3_
                          have BK355 := n4_
                          have BK356 := n5_
                          have BK367 := n6_
                          have HB := n7_
                          clear n0_ n1_ n2_ n3_ n4_ n5_ n6_ n7_
                          have p368 : 0 ≤ ((ji44) : Int) := of_decide_eq_true (by first | (with_reducible assumption) | assumption)
                          have q368 : (ji44) < (t351.length : Int) := of_decide_eq_true (by first | (with_reducible assumption) | assumption)
                          obtain ⟨ad368, e368, hx368_0, hx368_1⟩ := at_T34 (Kd.R_reads' HO_356002.out).2.2 (ji44) p368 q368
                          cases e368
                          replace p368 := eq_true p368
                          replace q368 := eq_true q368
                          refine start_ (n := 13) (S := fun w' => w'.cell? ⟨gb367, 0, none⟩ = some (.string t361) ∧ w'.cell? ⟨gb367, 1, none⟩ = some (.string t362) ∧ w'.cell? ⟨gb367, 2, none⟩ = some (.slice Ao62 t363.length co62) ∧ w'.cell? ⟨gb355, 0, none⟩ = some (.string t349) ∧ w'.cell? ⟨gb355, 1, none⟩ = some (.string t350) ∧ w'.cell? ⟨gb355, 2, none⟩ = some (.slice (some ad368) t351.length co13) ∧ w'.cell? (ad368.add (((ji44)).toNat * 2)) = some (.string ((rd_T34 t351 (ji44)).f0)) ∧ w'.cell? ⟨(ad368.add (((ji44)).toNat * 2)).block, (ad368.add (((ji44)).toNat * 2)).off + 1, none⟩ = some (.string ((rd_T34 t351 (ji44)).f1))) (ds := []) #[false, false, false, false, false, false, false, false, false, false, false, false, false] (by kernel_rfl) rfl rfl ⟨(blk_cell BK367.out 0).trans rfl, (blk_cell BK367.out 1).trans rfl, (blk_cell BK367.out 2).trans rfl, (blk_cell BK355.out 0).trans rfl, (blk_cell BK355.out 1).trans rfl, (blk_cell BK355.out 2).trans rfl, hx368_0, hx368_1⟩ (fun hHeld => ?_); refine with_tabW majordomolaw06_ResourceTold.tab17 majordomolaw06_ResourceTold.bits17 (fun HT_ HW_ => ?_)
                          generalize w63.drew = w64 at HO_356002 HO_357002 HO365 BK347 BK355 BK356 BK367 HB hx368_0 hx368_1 hHeld ⊢
                          refine pure_ (i := 1) (N := some 83) (v := ?_) (a' := ?_) #[false, true, false, false, false, false, false, false, false, false, false, false, false] rfl rfl (any_of HT_.out (by kernel_rfl)) (fun _ _ _ h => h) (Or.inl ⟨by rfl, ?_⟩) ?_ ?_
                          rotate_left
                          · intro w'
                            go_simp
                            with_reducible rfl
                          rotate_left
                          · simp only [Act.put, List.setIfInBounds_toArray, List.set_cons_zero, List.set_cons_succ, i64_w, i32_w]
                            rfl
                          refine pure_ (i := 3) (N := some 85) (v := ?_) (a' := ?_) #[false, true, false, true, false, false, false, false, false, false, false, false, false] rfl rfl (any_of HT_.out (by kernel_rfl)) (fun _ _ _ h => h) (Or.inl ⟨by rfl, ?_⟩) ?_ ?_
                          rotate_left
                          · intro w'
                            go_simp
                            with_reducible rfl
                          rotate_left
                          · simp only [Act.put, List.setIfInBounds_toArray, List.set_cons_zero, List.set_cons_succ, i64_w, i32_w]
                            rfl
                          refine take_ (i := 0) (N := some 82) (v := ?_) (a' := ?_) #[true, true, false, true, false, false, false, false, false, false, false, false, false] rfl rfl (take_ofW HT_.out HW_.out (by kernel_rfl)) (fun _ _ _ h => h) (Or.inl ⟨by rfl, ?_⟩) hHeld ?_ ?_
                          rotate_left
                          · rintro w' ⟨s0, s1, s2, s3, s4, s5, s6, s7⟩
                            go_simp
                            with_reducible rfl
                          rotate_left
                          · simp only [Act.put, List.setIfInBounds_toArray, List.set_cons_zero, List.set_cons_succ, i64_w, i32_w]
                            rfl
                          refine take_ (i := 2) (N := some 84) (v := ?_) (a' := ?_) #[true, true, true, true, false, false, false, false, false, false, false, false, false] rfl rfl (take_ofW HT_.out HW_.out (by kernel_rfl)) (fun _ _ _ h => h) (Or.inl ⟨by rfl, ?_⟩) hHeld ?_ ?_
                          rotate_left
                          · rintro w' ⟨s0, s1, s2, s3, s4, s5, s6, s7⟩
                            go_simp
                            with_reducible rfl
                          rotate_left
                          · simp only [Act.put, List.setIfInBounds_toArray, List.set_cons_zero, List.set_cons_succ, i64_w, i32_w]
                            rfl
                          refine pure_ (i := 4) (N := some 86) (v := ?_) (a' := ?_) #[true, true, true, true, true, false, false, false, false, false, false, false, false] rfl rfl (any_of HT_.out (by kernel_rfl)) (fun _ _ _ h => h) (Or.inl ⟨by rfl, ?_⟩) ?_ ?_
                          rotate_left
                          · intro w'
                            go_simp
                            with_reducible rfl
                          rotate_left
                          · simp only [Act.put, List.setIfInBounds_toArray, List.set_cons_zero, List.set_cons_succ, i64_w, i32_w]
                            rfl
                          refine pure_ (i := 5) (N := some 87) (v := ?_) (a' := ?_) #[true, true, true, true, true, true, false, false, false, false, false, false, false] rfl rfl (any_of HT_.out (by kernel_rfl)) (fun _ _ _ h => h) (Or.inl ⟨by rfl, ?_⟩) ?_ ?_
                          rotate_left
                          · intro w'
                            go_simp
                            with_reducible rfl
                          rotate_left
                          · simp only [Act.put, List.setIfInBounds_toArray, List.set_cons_zero, List.set_cons_succ, i64_w, i32_w]
                            rfl
                          refine take_ (i := 6) (N := some 88) (v := ?_) (a' := ?_) #[true, true, true, true, true, true, true, false, false, false, false, false, false] rfl rfl (take_ofW HT_.out HW_.out (by kernel_rfl)) (fun _ _ _ h => h) (Or.inl ⟨by rfl, ?_⟩) hHeld ?_ ?_
                          rotate_left
                          · rintro w' ⟨s0, s1, s2, s3, s4, s5, s6, s7⟩
                            go_simp
                            with_reducible rfl
                          rotate_left
                          · simp only [Act.put, List.setIfInBounds_toArray, List.set_cons_zero, List.set_cons_succ, i64_w, i32_w]
                            rfl
                          refine one_ (i := 7) (N := some 89) #[true, true, true, true, true, true, true, true, false, false, false, false, false] rfl rfl (one_of HT_.out (by kernel_rfl)) (by decide) (fun K hK => ?_)
                          refine goes_ Tryd.func11 (by kernel_rfl) rfl #[.agg #[.string t361, .string t362, .slice Ao62 t363.length co62], .string ((rd_T34 t351 (ji44)).f0)] (by rfl) rfl rfl (by (try simp only [List.map_toArray, List.map_cons, List.map_nil]); first | done | (simp only [hji44]; rfl) | rfl | (simp only [List.length_drop, List.length_take]; rfl)) ?_
                          with_reducible refine (resource_Get.calls k3 t361 t362 _ _ t363 ((rd_T34 t351 (ji44)).f0) t369 t370 _ ?side1 ?side2 A47.out).mono ?_
                          (case side1 => repeat (first | exact (Kd.R_reads' HO365.out).2.2 | (with_reducible refine Kd.C_alloc ?_ _) | (with_reducible refine Kd.C_drewN ?_ _) | (with_reducible refine Kd.C_drew ?_)))
                          (case side2 => exact (Kd.R_reads' HO365.out).2.1)
                          rintro e w65 ⟨rfl, hb⟩
                          have HS6_ := (hb.cell (World.block_lt_of_cell? _ _ (hHeld.2.2.2.2.2.2.1))).trans (hHeld.2.2.2.2.2.2.1)
                          have HS7_ := (hb.cell (World.block_lt_of_cell? _ _ (hHeld.2.2.2.2.2.2.2))).trans (hHeld.2.2.2.2.2.2.2)
                          refine ⟨_, rfl, ?_⟩
                          have n0_ := Aside0.mk (Kd.R_below (by (with_reducible repeat (first | apply Kd.R_alloc | apply Kd.R_drewN | apply Kd.R_drew)); exact HO_356002.out) hb)
                          have n1_ := Aside0.mk (Kd.R_below (by (with_reducible repeat (first | apply Kd.R_alloc | apply Kd.R_drewN | apply Kd.R_drew)); exact HO_357002.out) hb)
                          have n2_ := Aside0.mk (Kd.R_below (by (with_reducible repeat (first | apply Kd.R_alloc | apply Kd.R_drewN | apply Kd.R_drew)); exact HO365.out) hb)
                          have n3_ := Aside0.mk (blk_below (g := gb347) (o := .cells #[.string a0_0, .string a0_1, .slice A0_2 l0_2.length c0_2] 24 (0, 0)) (by (with_reducible repeat (first | refine blk_drewN ?_ _ | refine blk_drew ?_ | refine blk_alloc ?_ _)); exact BK347.out) hb)
                          have n4_ := Aside0.mk (blk_below (g := gb355) (o := .cells #[.string t349, .string t350, .slice (some ad368) t351.length co13] 24 (0, 0)) (by (with_reducible repeat (first | refine blk_drewN ?_ _ | refine blk_drew ?_ | refine blk_alloc ?_ _)); exact BK355.out) hb)
                          have n5_ := Aside0.mk (blk_below (g := gb356) (o := .cells #[.string t349, .string t350, .slice Ao55 x357002_3.length co55] 24 (0, 0)) (by (with_reducible repeat (first | refine blk_drewN ?_ _ | refine blk_drew ?_ | refine blk_alloc ?_ _)); exact BK356.out) hb)
                          have n6_ := Aside0.mk (blk_below (g := gb367) (o := .cells #[.string t361, .string t362, .slice Ao62 t363.length co62] 24 (0, 0)) (by (with_reducible repeat (first | refine blk_drewN ?_ _ | refine blk_drew ?_ | refine blk_alloc ?_ _)); exact BK367.out) hb)
                          have n7_ := Aside0.mk (below_step (by repeat (first | (with_reducible first | exact HB.out | apply below_alloc | apply pw_below_drewN | apply below_drew1 | refine below_set ?_ GE347.out | refine below_set ?_ GE355.out | refine below_set ?_ GE356.out | refine below_set ?_ GE367.out) | exact HB.out)) hb)
                          clear HO_356002
                          clear HO_357002
                          clear HO365
                          clear BK347
                          clear BK355
                          clear BK356
                          clear BK367
                          clear HB
                          have HO_356002 := n0_
                          have HO_357002 := n1_
                          have HO365 := n2_
                          have BK347 := n3_
                          have BK355 := n4_
                          have BK356 := n5_
                          have BK367 := n6_
                          have HB := n7_
                          clear n0_ n1_ n2_ n3_ n4_ n5_ n6_ n7_
                          (try clear hb)
                          (try clear hb2)
                          (try clear hk)
                          (try clear hi)
                          refine hK.out _ _ ⟨(blk_cell BK367.out 0).trans rfl, (blk_cell BK367.out 1).trans rfl, (blk_cell BK367.out 2).trans rfl, (blk_cell BK355.out 0).trans rfl, (blk_cell BK355.out 1).trans rfl, (blk_cell BK355.out 2).trans rfl, HS6_, HS7_⟩ (fun hHeld => ?_)
                          clear hK K
                          refine norm_ (a' := ?_) ?_ ?_
                          rotate_left
                          · show Act.put _ (some 89) _ = _
                            simp only [Act.put, List.setIfInBounds_toArray, List.set_cons_zero, List.set_cons_succ, i64_w, i32_w]
                            rfl
                          refine pure_ (i := 8) (N := some 81) (v := ?_) (a' := ?_) #[true, true, true, true, true, true, true, true, true, false, false, false, false] rfl rfl (any_of HT_.out (by kernel_rfl)) (fun _ _ _ h => h) (Or.inl ⟨by rfl, ?_⟩) ?_ ?_
                          rotate_left
                          · intro w'
                            go_simp
                            with_reducible rfl
                          rotate_left
                          · simp only [Act.put, List.setIfInBounds_toArray, List.set_cons_zero, List.set_cons_succ, i64_w, i32_w]
                            rfl
                          refine pure_ (i := 9) (N := some 90) (v := ?_) (a' := ?_) #[true, true, true, true, true, true, true, true, true, true, false, false, false] rfl rfl (any_of HT_.out (by kernel_rfl)) (fun _ _ _ h => h) (Or.inl ⟨by rfl, ?_⟩) ?_ ?_
                          rotate_left
                          · intro w'
                            go_simp
                            with_reducible rfl
                          rotate_left
                          · simp only [Act.put, List.setIfInBounds_toArray, List.set_cons_zero, List.set_cons_succ, i64_w, i32_w]
                            rfl
                          refine pure_ (i := 10) (N := some 91) (v := ?_) (a' := ?_) #[true, true, true, true, true, true, true, true, true, true, true, false, false] rfl rfl (any_of HT_.out (by kernel_rfl)) (fun _ _ _ h => h) (Or.inl ⟨by rfl, ?_⟩) ?_ ?_
                          rotate_left
                          · intro w'
                            go_simp
                            with_reducible rfl
                          rotate_left
                          · simp only [Act.put, List.setIfInBounds_toArray, List.set_cons_zero, List.set_cons_succ, i64_w, i32_w]
                            rfl
                          refine pure_ (i := 11) (N := some 12) (v := ?_) (a' := ?_) #[true, true, true, true, true, true, true, true, true, true, true, true, false] rfl rfl (any_of HT_.out (by kernel_rfl)) (fun _ _ _ h => h) (Or.inl ⟨by rfl, ?_⟩) ?_ ?_
                          rotate_left
                          · intro w'
                            go_simp
                            with_reducible rfl
                          rotate_left
                          · simp only [Act.put, List.setIfInBounds_toArray, List.set_cons_zero, List.set_cons_succ, i64_w, i32_w]
                            rfl
                          refine pure_ (i := 12) (N := some 13) (v := ?_) (a' := ?_) #[true, true, true, true, true, true, true, true, true, true, true, true, true] rfl rfl (any_of HT_.out (by kernel_rfl)) (fun _ _ _ h => h) (Or.inl ⟨by rfl, ?_⟩) ?_ ?_
                          rotate_left
                          · intro w'
                            go_simp
                            with_reducible rfl
                          rotate_left
                          · simp only [Act.put, List.setIfInBounds_toArray, List.set_cons_zero, List.set_cons_succ, i64_w, i32_w]
                            rfl
                          refine done_ (done_of HT_.out (by kernel_rfl)) ?_
                          try go_wp2
                          have n0_ := Aside0.mk (Kd.R_drew HO_356002.out)
                          have n1_ := Aside0.mk (Kd.R_drew HO_357002.out)
                          have n2_ := Aside0.mk (Kd.R_drew HO365.out)
                          have n3_ := Aside0.mk (blk_drew BK347.out)
                          have n4_ := Aside0.mk (blk_drew BK355.out)
                          have n5_ := Aside0.mk (blk_drew BK356.out)
                          have n6_ := Aside0.mk (blk_drew BK367.out)
                          have n7_ := Aside0.mk (below_drew1 HB.out)
                          clear HO_356002
                          clear HO_357002
                          clear HO365
                          clear BK347
                          clear BK355
                          clear BK356
                          clear BK367
                          clear HB
                          have HO_356002 := n0_
                          have HO_357002 := n1_
                          have HO365 := n2_
                          have BK347 := n3_
                          have BK355 := n4_
                          have BK356 := n5_
                          have BK367 := n6_
                          have HB := n7_
                          clear n0_ n1_ n2_ n3_ n4_ n5_ n6_ n7_
                          have p371 : 0 ≤ ((ji44) : Int) := of_decide_eq_true (by first | (with_reducible assumption) | assumption)
                          have q371 : (ji44) < (t351.length : Int) := of_decide_eq_true (by first | (with_reducible assumption) | assumption)
                          obtain ⟨ad371, e371, hx371_0, hx371_1⟩ := at_T34 (Kd.R_reads' HO_356002.out).2.2 (ji44) p371 q371
                          obtain rfl : ad368 = ad371 := (by injection e371)
                          replace p371 := eq_true p371
                          replace q371 := eq_true q371
                          refine start_ (n := 13) (S := fun w' => w'.cell? ⟨gb355, 0, none⟩ = some (.string t349) ∧ w'.cell? ⟨gb355, 1, none⟩ = some (.string t350) ∧ w'.cell? ⟨gb355, 2, none⟩ = some (.slice (some ad368) t351.length co13) ∧ w'.cell? (ad368.add (((ji44)).toNat * 2)) = some (.string ((rd_T34 t351 (ji44)).f0)) ∧ w'.cell? ⟨(ad368.add (((ji44)).toNat * 2)).block, (ad368.add (((ji44)).toNat * 2)).off + 1, none⟩ = some (.string ((rd_T34 t351 (ji44)).f1))) (ds := []) #[false, false, false, false, false, false, false, false, false, false, false, false, false] (by kernel_rfl) rfl rfl ⟨(blk_cell BK355.out 0).trans rfl, (blk_cell BK355.out 1).trans rfl, (blk_cell BK355.out 2).trans rfl, hx371_0, hx371_1⟩ (fun hHeld => ?_); refine with_tabW majordomolaw06_ResourceTold.tab18 majordomolaw06_ResourceTold.bits18 (fun HT_ HW_ => ?_)
                          generalize w65.drew = w66 at HO_356002 HO_357002 HO365 BK347 BK355 BK356 BK367 HB hx371_0 hx371_1 hHeld ⊢
                          refine pure_ (i := 1) (N := some 94) (v := ?_) (a' := ?_) #[false, true, false, false, false, false, false, false, false, false, false, false, false] rfl rfl (any_of HT_.out (by kernel_rfl)) (fun _ _ _ h => h) (Or.inl ⟨by rfl, ?_⟩) ?_ ?_
                          rotate_left
                          · intro w'
                            go_simp
                            with_reducible rfl
                          rotate_left
                          · simp only [Act.put, List.setIfInBounds_toArray, List.set_cons_zero, List.set_cons_succ, i64_w, i32_w]
                            rfl
                          refine pure_ (i := 3) (N := some 96) (v := ?_) (a' := ?_) #[false, true, false, true, false, false, false, false, false, false, false, false, false] rfl rfl (any_of HT_.out (by kernel_rfl)) (fun _ _ _ h => h) (Or.inl ⟨by rfl, ?_⟩) ?_ ?_
                          rotate_left
                          · intro w'
                            go_simp
                            with_reducible rfl
                          rotate_left
                          · simp only [Act.put, List.setIfInBounds_toArray, List.set_cons_zero, List.set_cons_succ, i64_w, i32_w]
                            rfl
                          refine take_ (i := 0) (N := some 93) (v := ?_) (a' := ?_) #[true, true, false, true, false, false, false, false, false, false, false, false, false] rfl rfl (take_ofW HT_.out HW_.out (by kernel_rfl)) (fun _ _ _ h => h) (Or.inl ⟨by rfl, ?_⟩) hHeld ?_ ?_
                          rotate_left
                          · rintro w' ⟨s0, s1, s2, s3, s4⟩
                            go_simp
                            with_reducible rfl
                          rotate_left
                          · simp only [Act.put, List.setIfInBounds_toArray, List.set_cons_zero, List.set_cons_succ, i64_w, i32_w]
                            rfl
                          refine take_ (i := 2) (N := some 95) (v := ?_) (a' := ?_) #[true, true, true, true, false, false, false, false, false, false, false, false, false] rfl rfl (take_ofW HT_.out HW_.out (by kernel_rfl)) (fun _ _ _ h => h) (Or.inl ⟨by rfl, ?_⟩) hHeld ?_ ?_
                          rotate_left
                          · rintro w' ⟨s0, s1, s2, s3, s4⟩
                            go_simp
                            with_reducible rfl
                          rotate_left
                          · simp only [Act.put, List.setIfInBounds_toArray, List.set_cons_zero, List.set_cons_succ, i64_w, i32_w]
                            rfl
                          refine pure_ (i := 4) (N := some 97) (v := ?_) (a' := ?_) #[true, true, true, true, true, false, false, false, false, false, false, false, false] rfl rfl (any_of HT_.out (by kernel_rfl)) (fun _ _ _ h => h) (Or.inl ⟨by rfl, ?_⟩) ?_ ?_
                          rotate_left
                          · intro w'
                            go_simp
                            with_reducible rfl
                          rotate_left
                          · simp only [Act.put, List.setIfInBounds_toArray, List.set_cons_zero, List.set_cons_succ, i64_w, i32_w]
                            rfl
                          refine pure_ (i := 5) (N := some 98) (v := ?_) (a' := ?_) #[true, true, true, true, true, true, false, false, false, false, false, false, false] rfl rfl (any_of HT_.out (by kernel_rfl)) (fun _ _ _ h => h) (Or.inl ⟨by rfl, ?_⟩) ?_ ?_
                          rotate_left
                          · intro w'
                            go_simp
                            with_reducible rfl
                          rotate_left
                          · simp only [Act.put, List.setIfInBounds_toArray, List.set_cons_zero, List.set_cons_succ, i64_w, i32_w]
                            rfl
                          refine take_ (i := 6) (N := some 99) (v := ?_) (a' := ?_) #[true, true, true, true, true, true, true, false, false, false, false, false, false] rfl rfl (take_ofW HT_.out HW_.out (by kernel_rfl)) (fun _ _ _ h => h) (Or.inl ⟨by rfl, ?_⟩) hHeld ?_ ?_
                          rotate_left
                          · rintro w' ⟨s0, s1, s2, s3, s4⟩
                            go_simp
                            with_reducible rfl
                          rotate_left
                          · simp only [Act.put, List.setIfInBounds_toArray, List.set_cons_zero, List.set_cons_succ, i64_w, i32_w]
                            rfl
                          refine one_ (i := 7) (N := some 100) #[true, true, true, true, true, true, true, true, false, false, false, false, false] rfl rfl (one_of HT_.out (by kernel_rfl)) (by decide) (fun K hK => ?_)
                          refine goes_ Tryd.func11 (by kernel_rfl) rfl #[.agg #[.string t349, .string t350, .slice (some ad368) t351.length co13], .string ((rd_T34 t351 (ji44)).f0)] (by rfl) rfl rfl (by (try simp only [List.map_toArray, List.map_cons, List.map_nil]); first | done | (simp only [hji44]; rfl) | rfl | (simp only [List.length_drop, List.length_take]; rfl)) ?_
                          with_reducible refine (resource_Get.calls k3 t349 t350 _ _ t351 ((rd_T34 t351 (ji44)).f0) t372 t373 _ ?side1 ?side2 A48.out).mono ?_
                          (case side1 => repeat (first | exact (Kd.R_reads' HO_356002.out).2.2 | (with_reducible refine Kd.C_alloc ?_ _) | (with_reducible refine Kd.C_drewN ?_ _) | (with_reducible refine Kd.C_drew ?_)))
                          (case side2 => exact (Kd.R_reads' HO_356002.out).2.1)
                          rintro e w67 ⟨rfl, hb⟩
                          have HS3_ := (hb.cell (World.block_lt_of_cell? _ _ (hHeld.2.2.2.1))).trans (hHeld.2.2.2.1)
                          have HS4_ := (hb.cell (World.block_lt_of_cell? _ _ (hHeld.2.2.2.2))).trans (hHeld.2.2.2.2)
                          refine ⟨_, rfl, ?_⟩
                          have n0_ := Aside0.mk (Kd.R_below (by (with_reducible repeat (first | apply Kd.R_alloc | apply Kd.R_drewN | apply Kd.R_drew)); exact HO_356002.out) hb)
                          have n1_ := Aside0.mk (Kd.R_below (by (with_reducible repeat (first | apply Kd.R_alloc | apply Kd.R_drewN | apply Kd.R_drew)); exact HO_357002.out) hb)
                          have n2_ := Aside0.mk (Kd.R_below (by (with_reducible repeat (first | apply Kd.R_alloc | apply Kd.R_drewN | apply Kd.R_drew)); exact HO365.out) hb)
                          have n3_ := Aside0.mk (blk_below (g := gb347) (o := .cells #[.string a0_0, .string a0_1, .slice A0_2 l0_2.length c0_2] 24 (0, 0)) (by (with_reducible repeat (first | refine blk_drewN ?_ _ | refine blk_drew ?_ | refine blk_alloc ?_ _)); exact BK347.out) hb)
                          have n4_ := Aside0.mk (blk_below (g := gb355) (o := .cells #[.string t349, .string t350, .slice (some ad368) t351.length co13] 24 (0, 0)) (by (with_reducible repeat (first | refine blk_drewN ?_ _ | refine blk_drew ?_ | refine blk_alloc ?_ _)); exact BK355.out) hb)
                          have n5_ := Aside0.mk (blk_below (g := gb356) (o := .cells #[.string t349, .string t350, .slice Ao55 x357002_3.length co55] 24 (0, 0)) (by (with_reducible repeat (first | refine blk_drewN ?_ _ | refine blk_drew ?_ | refine blk_alloc ?_ _)); exact BK356.out) hb)
                          have n6_ := Aside0.mk (blk_below (g := gb367) (o := .cells #[.string t361, .string t362, .slice Ao62 t363.length co62] 24 (0, 0)) (by (with_reducible repeat (first | refine blk_drewN ?_ _ | refine blk_drew ?_ | refine blk_alloc ?_ _)); exact BK367.out) hb)
                          have n7_ := Aside0.mk (below_step (by repeat (first | (with_reducible first | exact HB.out | apply below_alloc | apply pw_below_drewN | apply below_drew1 | refine below_set ?_ GE347.out | refine below_set ?_ GE355.out | refine below_set ?_ GE356.out | refine below_set ?_ GE367.out) | exact HB.out)) hb)
                          clear HO_356002
                          clear HO_357002
                          clear HO365
                          clear BK347
                          clear BK355
                          clear BK356
                          clear BK367
                          clear HB
                          have HO_356002 := n0_
                          have HO_357002 := n1_
                          have HO365 := n2_
                          have BK347 := n3_
                          have BK355 := n4_
                          have BK356 := n5_
                          have BK367 := n6_
                          have HB := n7_
                          clear n0_ n1_ n2_ n3_ n4_ n5_ n6_ n7_
                          (try clear hb)
                          (try clear hb2)
                          (try clear hk)
                          (try clear hi)
                          refine hK.out _ _ ⟨(blk_cell BK355.out 0).trans rfl, (blk_cell BK355.out 1).trans rfl, (blk_cell BK355.out 2).trans rfl, HS3_, HS4_⟩ (fun hHeld => ?_)
                          clear hK K
                          refine norm_ (a' := ?_) ?_ ?_
                          rotate_left
                          · show Act.put _ (some 100) _ = _
                            simp only [Act.put, List.setIfInBounds_toArray, List.set_cons_zero, List.set_cons_succ, i64_w, i32_w]
                            rfl
                          refine pure_ (i := 8) (N := some 92) (v := ?_) (a' := ?_) #[true, true, true, true, true, true, true, true, true, false, false, false, false] rfl rfl (any_of HT_.out (by kernel_rfl)) (fun _ _ _ h => h) (Or.inl ⟨by rfl, ?_⟩) ?_ ?_
                          rotate_left
                          · intro w'
                            go_simp
                            with_reducible rfl
                          rotate_left
                          · simp only [Act.put, List.setIfInBounds_toArray, List.set_cons_zero, List.set_cons_succ, i64_w, i32_w]
                            rfl
                          refine pure_ (i := 9) (N := some 101) (v := ?_) (a' := ?_) #[true, true, true, true, true, true, true, true, true, true, false, false, false] rfl rfl (any_of HT_.out (by kernel_rfl)) (fun _ _ _ h => h) (Or.inl ⟨by rfl, ?_⟩) ?_ ?_
                          rotate_left
                          · intro w'
                            go_simp
                            with_reducible rfl
                          rotate_left
                          · simp only [Act.put, List.setIfInBounds_toArray, List.set_cons_zero, List.set_cons_succ, i64_w, i32_w]
                            rfl
                          refine pure_ (i := 10) (N := some 102) (v := ?_) (a' := ?_) #[true, true, true, true, true, true, true, true, true, true, true, false, false] rfl rfl (any_of HT_.out (by kernel_rfl)) (fun _ _ _ h => h) (Or.inl ⟨by rfl, ?_⟩) ?_ ?_
                          rotate_left
                          · intro w'
                            go_simp
                            with_reducible rfl
                          rotate_left
                          · simp only [Act.put, List.setIfInBounds_toArray, List.set_cons_zero, List.set_cons_succ, i64_w, i32_w]
                            rfl
                          refine pure_ (i := 11) (N := some 14) (v := ?_) (a' := ?_) #[true, true, true, true, true, true, true, true, true, true, true, true, false] rfl rfl (any_of HT_.out (by kernel_rfl)) (fun _ _ _ h => h) (Or.inl ⟨by rfl, ?_⟩) ?_ ?_
                          rotate_left
                          · intro w'
                            go_simp
                            with_reducible rfl
                          rotate_left
                          · simp only [Act.put, List.setIfInBounds_toArray, List.set_cons_zero, List.set_cons_succ, i64_w, i32_w]
                            rfl
                          refine pure_ (i := 12) (N := some 15) (v := ?_) (a' := ?_) #[true, true, true, true, true, true, true, true, true, true, true, true, true] rfl rfl (any_of HT_.out (by kernel_rfl)) (fun _ _ _ h => h) (Or.inl ⟨by rfl, ?_⟩) ?_ ?_
                          rotate_left
                          · intro w'
                            go_simp
                            with_reducible rfl
                          rotate_left
                          · simp only [Act.put, List.setIfInBounds_toArray, List.set_cons_zero, List.set_cons_succ, i64_w, i32_w]
                            rfl
                          refine done_ (done_of HT_.out (by kernel_rfl)) ?_
                          go_upto_region 19 with (fail)
                          go_cut [109] (fun v109 wc => ∃ (kq : Nat) (x109_48 : Bool), v109 = .bool x109_48 ∧ Aside0 (majordomolaw06_ResourceTold.j3 kq x109_48 t349 t350 t351 t361 t362 t363 = some r) ∧ Aside0 (kq ≤ k3) ∧ Aside0 (Kd.R k34 34 wc w.heap.size (fun k_ => some k_ ≠ ((.slice Ao55 x357002_3.length co55) : Value).ownBlock ∧ some k_ ≠ ((.slice Ao62 t363.length co62) : Value).ownBlock) (.slice (some ad368) t351.length co13) t351) ∧ Aside0 (Kd.R k34 34 wc w.heap.size (fun k_ => some k_ ≠ ((.slice (some ad368) t351.length co13) : Value).ownBlock ∧ some k_ ≠ ((.slice Ao62 t363.length co62) : Value).ownBlock) (.slice Ao55 x357002_3.length co55) x357002_3) ∧ Aside0 (Kd.R k34 34 wc w.heap.size (fun k_ => some k_ ≠ ((.slice (some ad368) t351.length co13) : Value).ownBlock ∧ some k_ ≠ ((.slice Ao55 x357002_3.length co55) : Value).ownBlock) (.slice Ao62 t363.length co62) t363) ∧ Aside0 (wc.heap[gb347]? = some (.cells #[.string a0_0, .string a0_1, (.slice A0_2 l0_2.length c0_2)] 24 (0, 0))) ∧ Aside0 (wc.heap[gb355]? = some (.cells #[.string t349, .string t350, (.slice (some ad368) t351.length co13)] 24 (0, 0))) ∧ Aside0 (wc.heap[gb356]? = some (.cells #[.string t349, .string t350, (.slice Ao55 x357002_3.length co55)] 24 (0, 0))) ∧ Aside0 (wc.heap[gb367]? = some (.cells #[.string t361, .string t362, (.slice Ao62 t363.length co62)] 24 (0, 0))) ∧ Aside0 (Below w.heap.size w wc))
                          case first =>
                            have H := HC49.out
                            clear HC49
                            by_cases c68 : t370 = true
                            · subst c68
                              have H1 : (majordomolaw06_ResourceTold.j3 k3 (t369.toList != t372.toList) t349 t350 t351 t361 t362 t363) = some r := by rw [if_pos rfl] at H; exact H
                              clear H
                              have H := H1
                              clear H1
                              have H' := Aside0.mk H
                              clear H
                              go_wp2
                              go_meet
                              case rel => exact ⟨_, ((t369.toList != t372.toList)), (by first | rfl | (simp; done) | (simp [*]; done)), H', ⟨by have := HJ4.out; have := HJ18.out; have := HK3.out; first | omega | exact Nat.le_refl _⟩, ⟨by (with_reducible repeat (first | apply Kd.R_alloc | apply Kd.R_drewN | apply Kd.R_drew)); exact HO_356002.out⟩, ⟨by (with_reducible repeat (first | apply Kd.R_alloc | apply Kd.R_drewN | apply Kd.R_drew)); exact HO_357002.out⟩, ⟨by (with_reducible repeat (first | apply Kd.R_alloc | apply Kd.R_drewN | apply Kd.R_drew)); exact HO365.out⟩, ⟨by (with_reducible repeat (first | refine blk_drewN ?_ _ | refine blk_drew ?_ | refine blk_alloc ?_ _)); exact BK347.out⟩, ⟨by (with_reducible repeat (first | refine blk_drewN ?_ _ | refine blk_drew ?_ | refine blk_alloc ?_ _)); exact BK355.out⟩, ⟨by (with_reducible repeat (first | refine blk_drewN ?_ _ | refine blk_drew ?_ | refine blk_alloc ?_ _)); exact BK356.out⟩, ⟨by (with_reducible repeat (first | refine blk_drewN ?_ _ | refine blk_drew ?_ | refine blk_alloc ?_ _)); exact BK367.out⟩, ⟨by repeat (first | (with_reducible first | exact HB.out | apply below_alloc | apply pw_below_drewN | apply below_drew1 | refine below_set ?_ GE347.out | refine below_set ?_ GE355.out | refine below_set ?_ GE356.out | refine below_set ?_ GE367.out) | exact HB.out)⟩⟩
                            · replace c68 := Bool.eq_false_iff.mpr c68
                              subst c68
                              have H1 : (majordomolaw06_ResourceTold.j3 k3 true t349 t350 t351 t361 t362 t363) = some r := by rw [if_neg (show ¬ (false = true) by decide)] at H; exact H
                              clear H
                              have H := H1
                              clear H1
                              have H' := Aside0.mk H
                              clear H
                              go_wp2
                              go_meet
                              case rel => exact ⟨_, (true), (by first | rfl | (simp; done) | (simp [*]; done)), H', ⟨by have := HJ4.out; have := HJ18.out; have := HK3.out; first | omega | exact Nat.le_refl _⟩, ⟨by (with_reducible repeat (first | apply Kd.R_alloc | apply Kd.R_drewN | apply Kd.R_drew)); exact HO_356002.out⟩, ⟨by (with_reducible repeat (first | apply Kd.R_alloc | apply Kd.R_drewN | apply Kd.R_drew)); exact HO_357002.out⟩, ⟨by (with_reducible repeat (first | apply Kd.R_alloc | apply Kd.R_drewN | apply Kd.R_drew)); exact HO365.out⟩, ⟨by (with_reducible repeat (first | refine blk_drewN ?_ _ | refine blk_drew ?_ | refine blk_alloc ?_ _)); exact BK347.out⟩, ⟨by (with_reducible repeat (first | refine blk_drewN ?_ _ | refine blk_drew ?_ | refine blk_alloc ?_ _)); exact BK355.out⟩, ⟨by (with_reducible repeat (first | refine blk_drewN ?_ _ | refine blk_drew ?_ | refine blk_alloc ?_ _)); exact BK356.out⟩, ⟨by (with_reducible repeat (first | refine blk_drewN ?_ _ | refine blk_drew ?_ | refine blk_alloc ?_ _)); exact BK367.out⟩, ⟨by repeat (first | (with_reducible first | exact HB.out | apply below_alloc | apply pw_below_drewN | apply below_drew1 | refine below_set ?_ GE347.out | refine below_set ?_ GE355.out | refine below_set ?_ GE356.out | refine below_set ?_ GE367.out) | exact HB.out)⟩⟩
                          case rest =>
                            clear HC49
                            try clear c1
                            try clear c2
                            try clear p2
                            try clear c3
                            try clear p3
                            try clear q3
                            try clear hx3
                            try clear c4
                            try clear c5
                            try clear c6
                            try clear p6
                            try clear c8
                            try clear c11
                            try clear c28
                            try clear c28b0
                            try clear c33
                            try clear c34
                            try clear p36
                            try clear q36
                            try clear hx36
                            try clear p37
                            try clear q37
                            try clear hx37
                            try clear c43
                            try clear c43b0
                            try clear c43b1
                            try clear c45
                            try clear c45b0
                            try clear c46
                            try clear c46b0
                            try clear c50
                            try clear c51
                            try clear c53
                            try clear c58
                            try clear c59
                            try clear c60
                            try clear p64
                            try clear c68
                            try clear hcz52_0
                            try clear hcz52_1
                            try clear hcz52_2
                            try clear hcz54_0
                            try clear hcz54_1
                            try clear hcz54_2
                            try clear hcz61_0
                            try clear hcz61_1
                            try clear hcz61_2
                            try clear hfz52_0
                            try clear hfz52_1
                            try clear hfz52_2
                            try clear hfz54_0
                            try clear hfz54_1
                            try clear hfz54_2
                            try clear hfz61_0
                            try clear hfz61_1
                            try clear hfz61_2
                            try clear hx368_0
                            try clear hx368_1
                            try clear hx371_0
                            try clear hx371_1
                            try clear p368
                            try clear p371
                            try clear q368
                            try clear q371
                            obtain ⟨kq, x109_48, rfl, HA, HJ48, HO_356002, HO_357002, HO_368002, BK347, BK355, BK356, BK367, HB⟩ := hcut
                            cases kq with
                            | zero => exact absurd HA.out (by simp [majordomolaw06_ResourceTold.j3])
                            | succ kj48 =>
                              have H := HA.out
                              clear HA
                              simp only [majordomolaw06_ResourceTold.j3] at H
                              by_cases c69 : x109_48 = true
                              · subst c69
                                have H1 : (some true) = some r := by rw [if_pos rfl] at H; exact H
                                clear H
                                have H := H1
                                clear H1
                                obtain rfl := Option.some.inj H
                                go_wp2
                                go_ret
                                exact ⟨by first | rfl | (simp [errW_none, errW_some] <;> rfl) | (simp only [← hji44]; first | rfl | (simp [errW_none, errW_some] <;> rfl)) | (simp [*, errW_none, errW_some] <;> rfl), by repeat (first | (with_reducible first | exact HB.out | apply below_alloc | apply pw_below_drewN | apply below_drew1 | refine below_set ?_ GE347.out | refine below_set ?_ GE355.out | refine below_set ?_ GE356.out | refine below_set ?_ GE367.out) | exact HB.out)⟩
                              · replace c69 := Bool.eq_false_iff.mpr c69
                                subst c69
                                have H1 : (majordomolaw06_ResourceTold.l1 kj48 ((t351.length : Int) == (t363.length : Int)) 0 t349 t350 t351 t361 t362 t363) = some r := by rw [if_neg (show ¬ (false = true) by decide)] at H; exact H
                                clear H
                                have H := H1
                                clear H1
                                have H' := Aside0.mk H
                                clear H
                                have hnb70 := NB355_347.out
                                have hnc70 := NB347_355.out
                                have hnb71 := NB355_356.out
                                have hnc71 := NB356_355.out
                                have hnb72 := NB355_367.out
                                have hnc72 := NB367_355.out
                                have hcz73_0 : wc.cell? ⟨gb355, 0, none⟩ = some (.string t349) := (blk_cell BK355.out 0).trans rfl
                                have hcz73_1 : wc.cell? ⟨gb355, 1, none⟩ = some (.string t350) := (blk_cell BK355.out 1).trans rfl
                                have hcz73_2 : wc.cell? ⟨gb355, 2, none⟩ = some (.slice (some ad368) t351.length co13) := (blk_cell BK355.out 2).trans rfl
                                have hfz73_0 := blk_frozen BK355.out 0
                                have hfz73_1 := blk_frozen BK355.out 1
                                have hfz73_2 := blk_frozen BK355.out 2
                                have hnb74 := NB367_347.out
                                have hnc74 := NB347_367.out
                                have hnb75 := NB367_356.out
                                have hnc75 := NB356_367.out
                                have hcz76_0 : wc.cell? ⟨gb367, 0, none⟩ = some (.string t361) := (blk_cell BK367.out 0).trans rfl
                                have hcz76_1 : wc.cell? ⟨gb367, 1, none⟩ = some (.string t362) := (blk_cell BK367.out 1).trans rfl
                                have hcz76_2 : wc.cell? ⟨gb367, 2, none⟩ = some (.slice Ao62 t363.length co62) := (blk_cell BK367.out 2).trans rfl
                                have hfz76_0 := blk_frozen BK367.out 0
                                have hfz76_1 := blk_frozen BK367.out 1
                                have hfz76_2 := blk_frozen BK367.out 2
                                go_wp2
                                go_loopg [16, 17] kj48 (fun kq v16 v17 w' => ∃ (x16_5 : Bool) (x17_5 : Int), v16 = .bool x16_5 ∧ v17 = .int .i64 x17_5 ∧ Aside0 (majordomolaw06_ResourceTold.l1 kq x16_5 x17_5 t349 t350 t351 t361 t362 t363 = some r) ∧ Aside0 (kq ≤ kj48) ∧ Aside0 (Kd.R k34 34 w' w.heap.size (fun k_ => some k_ ≠ ((.slice Ao55 x357002_3.length co55) : Value).ownBlock ∧ some k_ ≠ ((.slice Ao62 t363.length co62) : Value).ownBlock) (.slice (some ad368) t351.length co13) t351) ∧ Aside0 (Kd.R k34 34 w' w.heap.size (fun k_ => some k_ ≠ ((.slice (some ad368) t351.length co13) : Value).ownBlock ∧ some k_ ≠ ((.slice Ao62 t363.length co62) : Value).ownBlock) (.slice Ao55 x357002_3.length co55) x357002_3) ∧ Aside0 (Kd.R k34 34 w' w.heap.size (fun k_ => some k_ ≠ ((.slice (some ad368) t351.length co13) : Value).ownBlock ∧ some k_ ≠ ((.slice Ao55 x357002_3.length co55) : Value).ownBlock) (.slice Ao62 t363.length co62) t363) ∧ Aside0 (w'.heap[gb347]? = some (.cells #[.string a0_0, .string a0_1, (.slice A0_2 l0_2.length c0_2)] 24 (0, 0))) ∧ Aside0 (w'.heap[gb355]? = some (.cells #[.string t349, .string t350, (.slice (some ad368) t351.length co13)] 24 (0, 0))) ∧ Aside0 (w'.heap[gb356]? = some (.cells #[.string t349, .string t350, (.slice Ao55 x357002_3.length co55)] 24 (0, 0))) ∧ Aside0 (w'.heap[gb367]? = some (.cells #[.string t361, .string t362, (.slice Ao62 t363.length co62)] 24 (0, 0))) ∧ Aside0 (Below w.heap.size w w'))
                                case atStart => exact ⟨(((t351.length : Int) == (t363.length : Int))), (0), (by first | rfl | (simp; done) | (simp [*]; done)), (by first | rfl | (simp; done) | (simp [*]; done)), H', ⟨Nat.le_refl _⟩, ⟨by (with_reducible repeat (first | apply Kd.R_alloc | apply Kd.R_drewN | apply Kd.R_drew)); exact HO_356002.out⟩, ⟨by (with_reducible repeat (first | apply Kd.R_alloc | apply Kd.R_drewN | apply Kd.R_drew)); exact HO_357002.out⟩, ⟨by (with_reducible repeat (first | apply Kd.R_alloc | apply Kd.R_drewN | apply Kd.R_drew)); exact HO_368002.out⟩, ⟨by (with_reducible repeat (first | refine blk_drewN ?_ _ | refine blk_drew ?_ | refine blk_alloc ?_ _)); exact BK347.out⟩, ⟨by (with_reducible repeat (first | refine blk_drewN ?_ _ | refine blk_drew ?_ | refine blk_alloc ?_ _)); exact BK355.out⟩, ⟨by (with_reducible repeat (first | refine blk_drewN ?_ _ | refine blk_drew ?_ | refine blk_alloc ?_ _)); exact BK356.out⟩, ⟨by (with_reducible repeat (first | refine blk_drewN ?_ _ | refine blk_drew ?_ | refine blk_alloc ?_ _)); exact BK367.out⟩, ⟨by repeat (first | (with_reducible first | exact HB.out | apply below_alloc | apply pw_below_drewN | apply below_drew1 | refine below_set ?_ GE347.out | refine below_set ?_ GE355.out | refine below_set ?_ GE356.out | refine below_set ?_ GE367.out) | exact HB.out)⟩⟩
                                case round =>
                                  clear H'
                                  try clear c1
                                  try clear c2
                                  try clear p2
                                  try clear c3
                                  try clear p3
                                  try clear q3
                                  try clear hx3
                                  try clear c4
                                  try clear c5
                                  try clear c6
                                  try clear p6
                                  try clear c7
                                  try clear c8
                                  try clear c11
                                  try clear c28
                                  try clear c28b0
                                  try clear c33
                                  try clear c34
                                  try clear p36
                                  try clear q36
                                  try clear hx36
                                  try clear p37
                                  try clear q37
                                  try clear hx37
                                  try clear c43
                                  try clear c43b0
                                  try clear c43b1
                                  try clear c45
                                  try clear c45b0
                                  try clear c46
                                  try clear c46b0
                                  try clear c50
                                  try clear c51
                                  try clear c53
                                  try clear c58
                                  try clear c59
                                  try clear c60
                                  try clear p64
                                  try clear c68
                                  try clear c69
                                  try clear c70
                                  try clear c71
                                  try clear c72
                                  try clear c74
                                  try clear c75
                                  try clear hcz52_0
                                  try clear hcz52_1
                                  try clear hcz52_2
                                  try clear hcz54_0
                                  try clear hcz54_1
                                  try clear hcz54_2
                                  try clear hcz61_0
                                  try clear hcz61_1
                                  try clear hcz61_2
                                  try clear hcz73_0
                                  try clear hcz73_1
                                  try clear hcz73_2
                                  try clear hcz76_0
                                  try clear hcz76_1
                                  try clear hcz76_2
                                  try clear hfz52_0
                                  try clear hfz52_1
                                  try clear hfz52_2
                                  try clear hfz54_0
                                  try clear hfz54_1
                                  try clear hfz54_2
                                  try clear hfz61_0
                                  try clear hfz61_1
                                  try clear hfz61_2
                                  try clear hfz73_0
                                  try clear hfz73_1
                                  try clear hfz73_2
                                  try clear hfz76_0
                                  try clear hfz76_1
                                  try clear hfz76_2
                                  try clear hx368_0
                                  try clear hx368_1
                                  try clear hx371_0
                                  try clear hx371_1
                                  try clear p2
                                  try clear p3
                                  try clear p36
                                  try clear p368
                                  try clear p37
                                  try clear p371
                                  try clear p6
                                  try clear p64
                                  try clear q3
                                  try clear q36
                                  try clear q368
                                  try clear q37
                                  try clear q371
                                  obtain ⟨x16_5, x17_5, rfl, rfl, HA, HK5, HO_356002, HO_357002, HO_368002, BK347, BK355, BK356, BK367, HB⟩ := hrel
                                  cases gk with
                                  | zero => exact absurd HA.out (by simp [majordomolaw06_ResourceTold.l1])
                                  | succ k5 =>
                                    have H := HA.out
                                    clear HA
                                    simp only [majordomolaw06_ResourceTold.l1] at H
                                    by_cases c77 : x17_5 < (t351.length : Int)
                                    · rw [if_pos c77] at H
                                      have c77b0 : decide (x17_5 < (t351.length : Int)) = true := decide_eq_true c77
                                      clear c77
                                      by_cases c78 : x16_5 = true
                                      · subst c78
                                        have H1 : (if 0 ≤ x17_5 then (if x17_5 < (t363.length : Int) then (majordomolaw06_ResourceTold.l1 k5 ((((rd_T34 t351 x17_5).f0).toList) == (((rd_T34 t363 x17_5).f0).toList) && ((((rd_T34 t351 x17_5).f1).toList) == (((rd_T34 t363 x17_5).f1).toList))) (wrap64 (x17_5 + 1)) t349 t350 t351 t361 t362 t363) else (none)) else (none)) = some r := by rw [if_pos rfl] at H; exact H
                                        clear H
                                        have H := H1
                                        clear H1
                                        by_cases c79 : 0 ≤ x17_5
                                        · rw [if_pos c79] at H
                                          have c79b0 : decide (0 ≤ x17_5) = true := decide_eq_true c79
                                          clear c79
                                          by_cases c80 : x17_5 < (t363.length : Int)
                                          · rw [if_pos c80] at H
                                            have c80b0 : decide (x17_5 < (t363.length : Int)) = true := decide_eq_true c80
                                            clear c80
                                            have H' := Aside0.mk H
                                            clear H
                                            have hnb81 := NB355_347.out
                                            have hnc81 := NB347_355.out
                                            have hnb82 := NB355_356.out
                                            have hnc82 := NB356_355.out
                                            have hnb83 := NB355_367.out
                                            have hnc83 := NB367_355.out
                                            have hcz84_0 : wr.cell? ⟨gb355, 0, none⟩ = some (.string t349) := (blk_cell BK355.out 0).trans rfl
                                            have hcz84_1 : wr.cell? ⟨gb355, 1, none⟩ = some (.string t350) := (blk_cell BK355.out 1).trans rfl
                                            have hcz84_2 : wr.cell? ⟨gb355, 2, none⟩ = some (.slice (some ad368) t351.length co13) := (blk_cell BK355.out 2).trans rfl
                                            have hfz84_0 := blk_frozen BK355.out 0
                                            have hfz84_1 := blk_frozen BK355.out 1
                                            have hfz84_2 := blk_frozen BK355.out 2
                                            try go_wp2
                                            have n0_ := Aside0.mk (Kd.R_drew HO_356002.out)
                                            have n1_ := Aside0.mk (Kd.R_drew HO_357002.out)
                                            have n2_ := Aside0.mk (Kd.R_drew HO_368002.out)
                                            have n3_ := Aside0.mk (blk_drew BK347.out)
                                            have n4_ := Aside0.mk (blk_drew BK355.out)
                                            have n5_ := Aside0.mk (blk_drew BK356.out)
                                            have n6_ := Aside0.mk (blk_drew BK367.out)
                                            have n7_ := Aside0.mk (below_drew1 HB.out)
                                            clear HO_356002
                                            clear HO_357002
                                            clear HO_368002
                                            clear BK347
                                            clear BK355
                                            clear BK356
                                            clear BK367
                                            clear HB
                                            have HO_356002 := n0_
                                            have HO_357002 := n1_
                                            have HO_368002 := n2_
                                            have BK347 := n3_
                                            have BK355 := n4_
                                            have BK356 := n5_
                                            have BK367 := n6_
                                            have HB := n7_
                                            clear n0_ n1_ n2_ n3_ n4_ n5_ n6_ n7_
                                            have p374 : 0 ≤ (x17_5 : Int) := of_decide_eq_true (by first | (with_reducible assumption) | assumption)
                                            have q374 : x17_5 < (t351.length : Int) := of_decide_eq_true (by first | (with_reducible assumption) | assumption)
                                            obtain ⟨ad374, e374, hx374_0, hx374_1⟩ := at_T34 (Kd.R_reads' HO_356002.out).2.2 x17_5 p374 q374
                                            obtain rfl : ad368 = ad374 := (by injection e374)
                                            replace p374 := eq_true p374
                                            replace q374 := eq_true q374
                                            have p375 : 0 ≤ (x17_5 : Int) := of_decide_eq_true (by first | (with_reducible assumption) | assumption)
                                            have q375 : x17_5 < (t363.length : Int) := of_decide_eq_true (by first | (with_reducible assumption) | assumption)
                                            obtain ⟨ad375, e375, hx375_0, hx375_1⟩ := at_T34 (Kd.R_reads' HO_368002.out).2.2 x17_5 p375 q375
                                            cases e375
                                            replace p375 := eq_true p375
                                            replace q375 := eq_true q375
                                            refine start_ (n := 12) (S := fun w' => w'.cell? ⟨gb355, 0, none⟩ = some (.string t349) ∧ w'.cell? ⟨gb355, 1, none⟩ = some (.string t350) ∧ w'.cell? ⟨gb355, 2, none⟩ = some (.slice (some ad368) t351.length co13) ∧ w'.cell? ⟨gb367, 0, none⟩ = some (.string t361) ∧ w'.cell? ⟨gb367, 1, none⟩ = some (.string t362) ∧ w'.cell? ⟨gb367, 2, none⟩ = some (.slice (some ad375) t363.length co62) ∧ w'.cell? (ad368.add ((x17_5).toNat * 2)) = some (.string ((rd_T34 t351 x17_5).f0)) ∧ w'.cell? ⟨(ad368.add ((x17_5).toNat * 2)).block, (ad368.add ((x17_5).toNat * 2)).off + 1, none⟩ = some (.string ((rd_T34 t351 x17_5).f1)) ∧ w'.cell? (ad375.add ((x17_5).toNat * 2)) = some (.string ((rd_T34 t363 x17_5).f0)) ∧ w'.cell? ⟨(ad375.add ((x17_5).toNat * 2)).block, (ad375.add ((x17_5).toNat * 2)).off + 1, none⟩ = some (.string ((rd_T34 t363 x17_5).f1))) (ds := []) #[false, false, false, false, false, false, false, false, false, false, false, false] (by kernel_rfl) rfl rfl ⟨(blk_cell BK355.out 0).trans rfl, (blk_cell BK355.out 1).trans rfl, (blk_cell BK355.out 2).trans rfl, (blk_cell BK367.out 0).trans rfl, (blk_cell BK367.out 1).trans rfl, (blk_cell BK367.out 2).trans rfl, hx374_0, hx374_1, hx375_0, hx375_1⟩ (fun hHeld => ?_); refine with_tabW majordomolaw06_ResourceTold.tab25 majordomolaw06_ResourceTold.bits25 (fun HT_ HW_ => ?_)
                                            generalize wr.drew = w85 at HO_356002 HO_357002 HO_368002 BK347 BK355 BK356 BK367 HB hx374_0 hx374_1 hx375_0 hx375_1 hHeld ⊢
                                            refine pure_ (i := 0) (N := some 127) (v := ?_) (a' := ?_) #[true, false, false, false, false, false, false, false, false, false, false, false] rfl rfl (any_of HT_.out (by kernel_rfl)) (fun _ _ _ h => h) (Or.inl ⟨by rfl, ?_⟩) ?_ ?_
                                            rotate_left
                                            · intro w'
                                              go_simp
                                              with_reducible rfl
                                            rotate_left
                                            · simp only [Act.put, List.setIfInBounds_toArray, List.set_cons_zero, List.set_cons_succ, i64_w, i32_w]
                                              rfl
                                            refine pure_ (i := 2) (N := some 129) (v := ?_) (a' := ?_) #[true, false, true, false, false, false, false, false, false, false, false, false] rfl rfl (any_of HT_.out (by kernel_rfl)) (fun _ _ _ h => h) (Or.inl ⟨by rfl, ?_⟩) ?_ ?_
                                            rotate_left
                                            · intro w'
                                              go_simp
                                              with_reducible rfl
                                            rotate_left
                                            · simp only [Act.put, List.setIfInBounds_toArray, List.set_cons_zero, List.set_cons_succ, i64_w, i32_w]
                                              rfl
                                            refine pure_ (i := 5) (N := some 132) (v := ?_) (a' := ?_) #[true, false, true, false, false, true, false, false, false, false, false, false] rfl rfl (any_of HT_.out (by kernel_rfl)) (fun _ _ _ h => h) (Or.inl ⟨by rfl, ?_⟩) ?_ ?_
                                            rotate_left
                                            · intro w'
                                              go_simp
                                              with_reducible rfl
                                            rotate_left
                                            · simp only [Act.put, List.setIfInBounds_toArray, List.set_cons_zero, List.set_cons_succ, i64_w, i32_w]
                                              rfl
                                            refine pure_ (i := 7) (N := some 134) (v := ?_) (a' := ?_) #[true, false, true, false, false, true, false, true, false, false, false, false] rfl rfl (any_of HT_.out (by kernel_rfl)) (fun _ _ _ h => h) (Or.inl ⟨by rfl, ?_⟩) ?_ ?_
                                            rotate_left
                                            · intro w'
                                              go_simp
                                              with_reducible rfl
                                            rotate_left
                                            · simp only [Act.put, List.setIfInBounds_toArray, List.set_cons_zero, List.set_cons_succ, i64_w, i32_w]
                                              rfl
                                            refine take_ (i := 1) (N := some 128) (v := ?_) (a' := ?_) #[true, true, true, false, false, true, false, true, false, false, false, false] rfl rfl (take_ofW HT_.out HW_.out (by kernel_rfl)) (fun _ _ _ h => h) (Or.inl ⟨by rfl, ?_⟩) hHeld ?_ ?_
                                            rotate_left
                                            · rintro w' ⟨s0, s1, s2, s3, s4, s5, s6, s7, s8, s9⟩
                                              go_simp
                                              with_reducible rfl
                                            rotate_left
                                            · simp only [Act.put, List.setIfInBounds_toArray, List.set_cons_zero, List.set_cons_succ, i64_w, i32_w]
                                              rfl
                                            refine pure_ (i := 3) (N := some 130) (v := ?_) (a' := ?_) #[true, true, true, true, false, true, false, true, false, false, false, false] rfl rfl (any_of HT_.out (by kernel_rfl)) (fun _ _ _ h => h) (Or.inl ⟨by rfl, ?_⟩) ?_ ?_
                                            rotate_left
                                            · intro w'
                                              go_simp
                                              with_reducible rfl
                                            rotate_left
                                            · simp only [Act.put, List.setIfInBounds_toArray, List.set_cons_zero, List.set_cons_succ, i64_w, i32_w]
                                              rfl
                                            refine take_ (i := 4) (N := some 131) (v := ?_) (a' := ?_) #[true, true, true, true, true, true, false, true, false, false, false, false] rfl rfl (take_ofW HT_.out HW_.out (by kernel_rfl)) (fun _ _ _ h => h) (Or.inl ⟨by rfl, ?_⟩) hHeld ?_ ?_
                                            rotate_left
                                            · rintro w' ⟨s0, s1, s2, s3, s4, s5, s6, s7, s8, s9⟩
                                              go_simp
                                              with_reducible rfl
                                            rotate_left
                                            · simp only [Act.put, List.setIfInBounds_toArray, List.set_cons_zero, List.set_cons_succ, i64_w, i32_w]
                                              rfl
                                            refine take_ (i := 6) (N := some 133) (v := ?_) (a' := ?_) #[true, true, true, true, true, true, true, true, false, false, false, false] rfl rfl (take_ofW HT_.out HW_.out (by kernel_rfl)) (fun _ _ _ h => h) (Or.inl ⟨by rfl, ?_⟩) hHeld ?_ ?_
                                            rotate_left
                                            · rintro w' ⟨s0, s1, s2, s3, s4, s5, s6, s7, s8, s9⟩
                                              go_simp
                                              with_reducible rfl
                                            rotate_left
                                            · simp only [Act.put, List.setIfInBounds_toArray, List.set_cons_zero, List.set_cons_succ, i64_w, i32_w]
                                              rfl
                                            refine pure_ (i := 8) (N := some 135) (v := ?_) (a' := ?_) #[true, true, true, true, true, true, true, true, true, false, false, false] rfl rfl (any_of HT_.out (by kernel_rfl)) (fun _ _ _ h => h) (Or.inl ⟨by rfl, ?_⟩) ?_ ?_
                                            rotate_left
                                            · intro w'
                                              go_simp
                                              with_reducible rfl
                                            rotate_left
                                            · simp only [Act.put, List.setIfInBounds_toArray, List.set_cons_zero, List.set_cons_succ, i64_w, i32_w]
                                              rfl
                                            refine take_ (i := 9) (N := some 136) (v := ?_) (a' := ?_) #[true, true, true, true, true, true, true, true, true, true, false, false] rfl rfl (take_ofW HT_.out HW_.out (by kernel_rfl)) (fun _ _ _ h => h) (Or.inl ⟨by rfl, ?_⟩) hHeld ?_ ?_
                                            rotate_left
                                            · rintro w' ⟨s0, s1, s2, s3, s4, s5, s6, s7, s8, s9⟩
                                              go_simp
                                              with_reducible rfl
                                            rotate_left
                                            · simp only [Act.put, List.setIfInBounds_toArray, List.set_cons_zero, List.set_cons_succ, i64_w, i32_w]
                                              rfl
                                            refine pure_ (i := 10) (N := some 137) (v := ?_) (a' := ?_) #[true, true, true, true, true, true, true, true, true, true, true, false] rfl rfl (any_of HT_.out (by kernel_rfl)) (fun _ _ _ h => h) (Or.inl ⟨by rfl, ?_⟩) ?_ ?_
                                            rotate_left
                                            · intro w'
                                              go_simp
                                              with_reducible rfl
                                            rotate_left
                                            · simp only [Act.put, List.setIfInBounds_toArray, List.set_cons_zero, List.set_cons_succ, i64_w, i32_w]
                                              rfl
                                            refine pure_ (i := 11) (N := some 16) (v := ?_) (a' := ?_) #[true, true, true, true, true, true, true, true, true, true, true, true] rfl rfl (any_of HT_.out (by kernel_rfl)) (fun _ _ _ h => h) (Or.inl ⟨by rfl, ?_⟩) ?_ ?_
                                            rotate_left
                                            · intro w'
                                              go_simp
                                              with_reducible rfl
                                            rotate_left
                                            · simp only [Act.put, List.setIfInBounds_toArray, List.set_cons_zero, List.set_cons_succ, i64_w, i32_w]
                                              rfl
                                            refine done_ (done_of HT_.out (by kernel_rfl)) ?_
                                            try go_wp2
                                            go_roundg k5
                                            case measure => have := HJ4.out; have := HJ18.out; have := HK3.out; have := HJ48.out; have := HK5.out; omega
                                            case rel => exact ⟨(((((rd_T34 t351 x17_5).f0).toList) == (((rd_T34 t363 x17_5).f0).toList) && ((((rd_T34 t351 x17_5).f1).toList) == (((rd_T34 t363 x17_5).f1).toList)))), (wrap64 (x17_5 + 1)), (by first | rfl | (simp; done) | (simp [*]; done)), (by first | rfl | (simp; done) | (simp [*]; done)), H', ⟨by have := HJ4.out; have := HJ18.out; have := HK3.out; have := HJ48.out; have := HK5.out; omega⟩, ⟨by (with_reducible repeat (first | apply Kd.R_alloc | apply Kd.R_drewN | apply Kd.R_drew)); exact HO_356002.out⟩, ⟨by (with_reducible repeat (first | apply Kd.R_alloc | apply Kd.R_drewN | apply Kd.R_drew)); exact HO_357002.out⟩, ⟨by (with_reducible repeat (first | apply Kd.R_alloc | apply Kd.R_drewN | apply Kd.R_drew)); exact HO_368002.out⟩, ⟨by (with_reducible repeat (first | refine blk_drewN ?_ _ | refine blk_drew ?_ | refine blk_alloc ?_ _)); exact BK347.out⟩, ⟨by (with_reducible repeat (first | refine blk_drewN ?_ _ | refine blk_drew ?_ | refine blk_alloc ?_ _)); exact BK355.out⟩, ⟨by (with_reducible repeat (first | refine blk_drewN ?_ _ | refine blk_drew ?_ | refine blk_alloc ?_ _)); exact BK356.out⟩, ⟨by (with_reducible repeat (first | refine blk_drewN ?_ _ | refine blk_drew ?_ | refine blk_alloc ?_ _)); exact BK367.out⟩, ⟨by repeat (first | (with_reducible first | exact HB.out | apply below_alloc | apply pw_below_drewN | apply below_drew1 | refine below_set ?_ GE347.out | refine below_set ?_ GE355.out | refine below_set ?_ GE356.out | refine below_set ?_ GE367.out) | exact HB.out)⟩⟩
                                          · rw [if_neg c80] at H
                                            exact absurd H (by simp)
                                        · rw [if_neg c79] at H
                                          exact absurd H (by simp)
                                      · replace c78 := Bool.eq_false_iff.mpr c78
                                        subst c78
                                        have H1 : (some false) = some r := by rw [if_neg (show ¬ (false = true) by decide)] at H; exact H
                                        clear H
                                        have H := H1
                                        clear H1
                                        obtain rfl := Option.some.inj H
                                        have hnb86 := NB355_347.out
                                        have hnc86 := NB347_355.out
                                        have hnb87 := NB355_356.out
                                        have hnc87 := NB356_355.out
                                        have hnb88 := NB355_367.out
                                        have hnc88 := NB367_355.out
                                        have hcz89_0 : wr.cell? ⟨gb355, 0, none⟩ = some (.string t349) := (blk_cell BK355.out 0).trans rfl
                                        have hcz89_1 : wr.cell? ⟨gb355, 1, none⟩ = some (.string t350) := (blk_cell BK355.out 1).trans rfl
                                        have hcz89_2 : wr.cell? ⟨gb355, 2, none⟩ = some (.slice (some ad368) t351.length co13) := (blk_cell BK355.out 2).trans rfl
                                        have hfz89_0 := blk_frozen BK355.out 0
                                        have hfz89_1 := blk_frozen BK355.out 1
                                        have hfz89_2 := blk_frozen BK355.out 2
                                        go_wp2
                                        go_ret
                                        exact ⟨by first | rfl | (simp [errW_none, errW_some] <;> rfl) | (simp only [← hji44]; first | rfl | (simp [errW_none, errW_some] <;> rfl)) | (simp [*, errW_none, errW_some] <;> rfl), by repeat (first | (with_reducible first | exact HB.out | apply below_alloc | apply pw_below_drewN | apply below_drew1 | refine below_set ?_ GE347.out | refine below_set ?_ GE355.out | refine below_set ?_ GE356.out | refine below_set ?_ GE367.out) | exact HB.out)⟩
                                    · rw [if_neg c77] at H
                                      have c77b0 : decide (x17_5 < (t351.length : Int)) = false := decide_eq_false c77
                                      clear c77
                                      obtain rfl := Option.some.inj H
                                      have hnb90 := NB355_347.out
                                      have hnc90 := NB347_355.out
                                      have hnb91 := NB355_356.out
                                      have hnc91 := NB356_355.out
                                      have hnb92 := NB355_367.out
                                      have hnc92 := NB367_355.out
                                      have hcz93_0 : wr.cell? ⟨gb355, 0, none⟩ = some (.string t349) := (blk_cell BK355.out 0).trans rfl
                                      have hcz93_1 : wr.cell? ⟨gb355, 1, none⟩ = some (.string t350) := (blk_cell BK355.out 1).trans rfl
                                      have hcz93_2 : wr.cell? ⟨gb355, 2, none⟩ = some (.slice (some ad368) t351.length co13) := (blk_cell BK355.out 2).trans rfl
                                      have hfz93_0 := blk_frozen BK355.out 0
                                      have hfz93_1 := blk_frozen BK355.out 1
                                      have hfz93_2 := blk_frozen BK355.out 2
                                      go_wp2
                                      go_ret
                                      exact ⟨by first | rfl | (simp [errW_none, errW_some] <;> rfl) | (simp only [← hji44]; first | rfl | (simp [errW_none, errW_some] <;> rfl)) | (simp [*, errW_none, errW_some] <;> rfl), by repeat (first | (with_reducible first | exact HB.out | apply below_alloc | apply pw_below_drewN | apply below_drew1 | refine below_set ?_ GE347.out | refine below_set ?_ GE355.out | refine below_set ?_ GE356.out | refine below_set ?_ GE367.out) | exact HB.out)⟩
                        · rw [if_neg c46] at H
                          exact absurd H (by simp)
                      · rw [if_neg c45] at H
                        exact absurd H (by simp)
                    · rw [if_neg c43] at H
                      have c43b0 : (t366 == 0) = false := beq_eq_false_iff_ne.mpr c43
                      have c43b1 : (t366 != 0) = true := bne_iff_ne.mpr c43
                      obtain rfl := Option.some.inj H
                      have hnb94 := NB355_347.out
                      have hnc94 := NB347_355.out
                      have hnb95 := NB355_356.out
                      have hnc95 := NB356_355.out
                      have hcz96_0 : wr.cell? ⟨gb355, 0, none⟩ = some (.string t349) := (blk_cell BK355.out 0).trans rfl
                      have hcz96_1 : wr.cell? ⟨gb355, 1, none⟩ = some (.string t350) := (blk_cell BK355.out 1).trans rfl
                      have hcz96_2 : wr.cell? ⟨gb355, 2, none⟩ = some (.slice Ao13 t351.length co13) := (blk_cell BK355.out 2).trans rfl
                      have hfz96_0 := blk_frozen BK355.out 0
                      have hfz96_1 := blk_frozen BK355.out 1
                      have hfz96_2 := blk_frozen BK355.out 2
                      have hnb97 := NB356_347.out
                      have hnc97 := NB347_356.out
                      have hcz98_0 : wr.cell? ⟨gb356, 0, none⟩ = some (.string t349) := (blk_cell BK356.out 0).trans rfl
                      have hcz98_1 : wr.cell? ⟨gb356, 1, none⟩ = some (.string t350) := (blk_cell BK356.out 1).trans rfl
                      have hcz98_2 : wr.cell? ⟨gb356, 2, none⟩ = some (u357002) := (blk_cell BK356.out 2).trans rfl
                      have hfz98_0 := blk_frozen BK356.out 0
                      have hfz98_1 := blk_frozen BK356.out 1
                      have hfz98_2 := blk_frozen BK356.out 2
                      obtain ⟨Ao99, co99, eo99⟩ := Kd.R_slice HO_357002.out
                      subst eo99
                      go_wp2_with (first | ((with_reducible refine gate_callee (f := 8) rfl ?_); refine goesL_ (some 74) rfl rfl Tryd.func8 (by kernel_rfl) rfl #[.agg #[.string t349, .string t350, .slice Ao99 x357002_3.length co99]] rfl (by (try simp only [List.map_toArray, List.map_cons, List.map_nil]); first | done | rfl | (simp only [List.length_drop, List.length_take]; rfl)) ?_; (with_reducible refine (resource_Full.calls t349 t350 _ _ x357002_3 t361 t362 t363 t366 _ ?side1 ?side2 A42.out (UtfOk.of_below HU.out (by repeat (first | (with_reducible first | exact HB.out | apply below_alloc | apply pw_below_drewN | apply below_drew1 | refine below_set ?_ GE347.out | refine below_set ?_ GE355.out | refine below_set ?_ GE356.out) | exact HB.out)))).mono ?_); (case side1 => repeat (first | exact (Kd.R_reads' HO_357002.out).2.2 | (with_reducible refine Kd.C_alloc ?_ _) | (with_reducible refine Kd.C_drewN ?_ _) | (with_reducible refine Kd.C_drew ?_))); (case side2 => exact (Kd.R_reads' HO_357002.out).2.1); rintro e w100 ⟨v364, rfl, ho0, hb⟩; refine ⟨_, rfl, ?_⟩; have n0_ := Aside0.mk (Kd.R_elder' (by (with_reducible repeat (first | apply Kd.R_alloc | apply Kd.R_drewN | apply Kd.R_drew)); exact HO_356002.out) (Kd.R_base ho0) hb); have n1_ := Aside0.mk (Kd.R_elder' (by (with_reducible repeat (first | apply Kd.R_alloc | apply Kd.R_drewN | apply Kd.R_drew)); exact HO_357002.out) (Kd.R_base ho0) hb); have n2_ := Aside0.mk (Kd.R_lower (Kd.R_new' (Kd.R_new' ho0 (Kd.R_lt (by (with_reducible repeat (first | apply Kd.R_alloc | apply Kd.R_drewN | apply Kd.R_drew)); exact HO_356002.out))) (Kd.R_lt (by (with_reducible repeat (first | apply Kd.R_alloc | apply Kd.R_drewN | apply Kd.R_drew)); exact HO_357002.out))) (below_size (by repeat (first | (with_reducible first | exact HB.out | apply below_alloc | apply pw_below_drewN | apply below_drew1 | refine below_set ?_ GE347.out | refine below_set ?_ GE355.out | refine below_set ?_ GE356.out) | exact HB.out)))); have n3_ := Aside0.mk (blk_below (g := gb347) (o := .cells #[.string a0_0, .string a0_1, .slice A0_2 l0_2.length c0_2] 24 (0, 0)) (by (with_reducible repeat (first | refine blk_drewN ?_ _ | refine blk_drew ?_ | refine blk_alloc ?_ _)); exact BK347.out) hb); have n4_ := Aside0.mk (blk_below (g := gb355) (o := .cells #[.string t349, .string t350, .slice Ao13 t351.length co13] 24 (0, 0)) (by (with_reducible repeat (first | refine blk_drewN ?_ _ | refine blk_drew ?_ | refine blk_alloc ?_ _)); exact BK355.out) hb); have n5_ := Aside0.mk (blk_below (g := gb356) (o := .cells #[.string t349, .string t350, .slice Ao99 x357002_3.length co99] 24 (0, 0)) (by (with_reducible repeat (first | refine blk_drewN ?_ _ | refine blk_drew ?_ | refine blk_alloc ?_ _)); exact BK356.out) hb); have n6_ := Aside0.mk (below_step (by repeat (first | (with_reducible first | exact HB.out | apply below_alloc | apply pw_below_drewN | apply below_drew1 | refine below_set ?_ GE347.out | refine below_set ?_ GE355.out | refine below_set ?_ GE356.out) | exact HB.out)) hb); clear HO_356002; clear HO_357002; clear BK347; clear BK355; clear BK356; clear HB; have HO_356002 := n0_; have HO_357002 := n1_; have HO365 := n2_; have BK347 := n3_; have BK355 := n4_; have BK356 := n5_; have HB := n6_; clear n0_ n1_ n2_ n3_ n4_ n5_ n6_; (try clear hb); (try clear hb2); (try clear hk); (try clear hi); (try clear ho0)) | ((with_reducible refine gate_dst (N := 10) rfl ?_); (try (refine gate_guard (by rfl) ?_; dsimp only)); refine box_event ?hg (N := 10) ?hd (cs := #[.string (⟨#[]⟩ : ByteArray), .string (⟨#[]⟩ : ByteArray), .slice none 0 0]) (t := 24) ?hr ?_; (case hd => rfl); (case hg => rfl); (case hr => first | (go_simp; done) | (go_simp; rfl)); intro gb367 hg w101 hbox hb; have n0_ := Aside0.mk (Kd.R_below (by (with_reducible repeat (first | apply Kd.R_alloc | apply Kd.R_drewN | apply Kd.R_drew)); exact HO_356002.out) hb); have n1_ := Aside0.mk (Kd.R_below (by (with_reducible repeat (first | apply Kd.R_alloc | apply Kd.R_drewN | apply Kd.R_drew)); exact HO_357002.out) hb); have n2_ := Aside0.mk (Kd.R_below (by (with_reducible repeat (first | apply Kd.R_alloc | apply Kd.R_drewN | apply Kd.R_drew)); exact HO365.out) hb); have n3_ := Aside0.mk (blk_below (g := gb347) (o := .cells #[.string a0_0, .string a0_1, .slice A0_2 l0_2.length c0_2] 24 (0, 0)) (by (with_reducible repeat (first | refine blk_drewN ?_ _ | refine blk_drew ?_ | refine blk_alloc ?_ _)); exact BK347.out) hb); have n4_ := Aside0.mk (blk_below (g := gb355) (o := .cells #[.string t349, .string t350, .slice Ao13 t351.length co13] 24 (0, 0)) (by (with_reducible repeat (first | refine blk_drewN ?_ _ | refine blk_drew ?_ | refine blk_alloc ?_ _)); exact BK355.out) hb); have n5_ := Aside0.mk (blk_below (g := gb356) (o := .cells #[.string t349, .string t350, .slice Ao99 x357002_3.length co99] 24 (0, 0)) (by (with_reducible repeat (first | refine blk_drewN ?_ _ | refine blk_drew ?_ | refine blk_alloc ?_ _)); exact BK356.out) hb); have n6_ := Aside0.mk (below_step (by repeat (first | (with_reducible first | exact HB.out | apply below_alloc | apply pw_below_drewN | apply below_drew1 | refine below_set ?_ GE347.out | refine below_set ?_ GE355.out | refine below_set ?_ GE356.out) | exact HB.out)) hb); have n7_ := Aside0.mk (hbox); have n8_ := Aside0.mk ((by rw [hg]; exact (below_size (by repeat (first | (with_reducible first | exact HB.out | apply below_alloc | apply pw_below_drewN | apply below_drew1 | refine below_set ?_ GE347.out | refine below_set ?_ GE355.out | refine below_set ?_ GE356.out) | exact HB.out))) : w.heap.size ≤ gb367)); have n9_ := Aside0.mk ((by rw [hg]; exact (below_size (by repeat (first | (with_reducible first | exact HB.out | apply below_alloc | apply pw_below_drewN | apply below_drew1 | refine below_set ?_ GE347.out | refine below_set ?_ GE355.out | refine below_set ?_ GE356.out) | exact HB.out))) : w.heap.size ≤ gb367)); have n10_ := Aside0.mk ((by rw [hg]; exact Nat.ne_of_lt (blk_lt (g := gb347) (o := .cells #[.string a0_0, .string a0_1, .slice A0_2 l0_2.length c0_2] 24 (0, 0)) (by (with_reducible repeat (first | refine blk_drewN ?_ _ | refine blk_drew ?_ | refine blk_alloc ?_ _)); exact BK347.out)) : gb347 ≠ gb367)); have n11_ := Aside0.mk ((by rw [hg]; exact Nat.ne_of_gt (blk_lt (g := gb347) (o := .cells #[.string a0_0, .string a0_1, .slice A0_2 l0_2.length c0_2] 24 (0, 0)) (by (with_reducible repeat (first | refine blk_drewN ?_ _ | refine blk_drew ?_ | refine blk_alloc ?_ _)); exact BK347.out)) : gb367 ≠ gb347)); have n12_ := Aside0.mk ((by rw [hg]; exact Nat.ne_of_lt (blk_lt (g := gb355) (o := .cells #[.string t349, .string t350, .slice Ao13 t351.length co13] 24 (0, 0)) (by (with_reducible repeat (first | refine blk_drewN ?_ _ | refine blk_drew ?_ | refine blk_alloc ?_ _)); exact BK355.out)) : gb355 ≠ gb367)); have n13_ := Aside0.mk ((by rw [hg]; exact Nat.ne_of_gt (blk_lt (g := gb355) (o := .cells #[.string t349, .string t350, .slice Ao13 t351.length co13] 24 (0, 0)) (by (with_reducible repeat (first | refine blk_drewN ?_ _ | refine blk_drew ?_ | refine blk_alloc ?_ _)); exact BK355.out)) : gb367 ≠ gb355)); have n14_ := Aside0.mk ((by rw [hg]; exact Nat.ne_of_lt (blk_lt (g := gb356) (o := .cells #[.string t349, .string t350, .slice Ao99 x357002_3.length co99] 24 (0, 0)) (by (with_reducible repeat (first | refine blk_drewN ?_ _ | refine blk_drew ?_ | refine blk_alloc ?_ _)); exact BK356.out)) : gb356 ≠ gb367)); have n15_ := Aside0.mk ((by rw [hg]; exact Nat.ne_of_gt (blk_lt (g := gb356) (o := .cells #[.string t349, .string t350, .slice Ao99 x357002_3.length co99] 24 (0, 0)) (by (with_reducible repeat (first | refine blk_drewN ?_ _ | refine blk_drew ?_ | refine blk_alloc ?_ _)); exact BK356.out)) : gb367 ≠ gb356)); clear HO_356002; clear HO_357002; clear HO365; clear BK347; clear BK355; clear BK356; clear HB; have HO_356002 := n0_; have HO_357002 := n1_; have HO365 := n2_; have BK347 := n3_; have BK355 := n4_; have BK356 := n5_; have HB := n6_; have BK367 := n7_; have GW367 := n8_; have GE367 := n9_; have NB347_367 := n10_; have NB367_347 := n11_; have NB355_367 := n12_; have NB367_355 := n13_; have NB356_367 := n14_; have NB367_356 := n15_; clear n0_ n1_ n2_ n3_ n4_ n5_ n6_ n7_ n8_ n9_ n10_ n11_ n12_ n13_ n14_ n15_; clear hb hbox hg; have hnb102 := NB367_347.out; have hnc102 := NB347_367.out; have hnb103 := NB367_355.out; have hnc103 := NB355_367.out; have hnb104 := NB367_356.out; have hnc104 := NB356_367.out; have hcz105_0 : w101.cell? ⟨gb367, 0, none⟩ = some (.string (⟨#[]⟩ : ByteArray)) := (blk_cell BK367.out 0).trans rfl; have hcz105_1 : w101.cell? ⟨gb367, 1, none⟩ = some (.string (⟨#[]⟩ : ByteArray)) := (blk_cell BK367.out 1).trans rfl; have hcz105_2 : w101.cell? ⟨gb367, 2, none⟩ = some (.slice none 0 0) := (blk_cell BK367.out 2).trans rfl; have hfz105_0 := blk_frozen BK367.out 0; have hfz105_1 := blk_frozen BK367.out 1; have hfz105_2 := blk_frozen BK367.out 2; obtain ⟨Ao106, co106, eo106⟩ := Kd.R_slice HO365.out; subst eo106))
                      go_ret
                      exact ⟨by first | rfl | (simp [errW_none, errW_some] <;> rfl) | (simp [*, errW_none, errW_some] <;> rfl), by repeat (first | (with_reducible first | exact HB.out | apply below_alloc | apply pw_below_drewN | apply below_drew1 | refine below_set ?_ GE347.out | refine below_set ?_ GE355.out | refine below_set ?_ GE356.out | refine below_set ?_ GE367.out) | exact HB.out)⟩
end Go.Proofs.YtkgafkoopefghaaDoor.PA
end
