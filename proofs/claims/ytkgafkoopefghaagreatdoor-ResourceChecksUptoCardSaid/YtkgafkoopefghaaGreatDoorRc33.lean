/- A part of this law; its conditions stand in the last text. -/
import Derived.Test.YtkgafkoopefghaaGreatDoorRc27
import Derived.Test.YtkgafkoopefghaaGreatDoorRc11
import Derived.Test.YtkgafkoopefghaaGreatDoorRc31
import Derived.Test.YtkgafkoopefghaaGreatDoorRc32
section
namespace Go.Proofs.YtkgafkoopefghaaGreatDoor.PA
open Go.RowKit Go.Proofs.YtkgafkoopefghaaGreatDoorW.PrintWords Go.Proofs.YtkgafkoopefghaaGreatDoorW.PrintLast Go.Proofs.YtkgafkoopefghaaGreatDoorW.PrintMore
open Go.Proofs.YtkgafkoopefghaaGreatDoor.Hk
attribute [local go_sem] max2_int min2_int max_two min_two max_three min_three max_four min_four
set_option linter.unusedVariables false
set_option linter.unusedSimpArgs false
def majordomolaw06_ResourceChecks.l0 : Nat → Bool → Int → Int → Bool → Int → ByteArray → ByteArray → List (S31) → ByteArray → ByteArray → List (S31) → ByteArray → ByteArray → List (S31) → Option (Bool)
 | 0, _, _, _, _, _, _, _, _, _, _, _, _, _, _ => none
 | k + 1, x3, x6, x8, x9, x10, x396000, x396001, x396002, x398000, x398001, x398002, x411000, x411001, x411002 => if x10 < (x411002.length : Int) then (if 0 ≤ x10 then (majordomolaw06_ResourceChecks.l0 k x3 x6 x8 x9 (wrap64 (x10 + 1)) x396000 x396001 x396002 x398000 x398001 x398002 x411000 x411001 (x411002.set (x10 : Int).toNat (⟨(rd_T31 x411002 x10).f0, (⟨#[115, 112, 111, 105, 108, 116]⟩ : ByteArray)⟩ : S31))) else (none)) else ((majordomoref06_Same.f k x398000 x398001 x398002 x396000 x396001 x396002).bind fun t420 => (if x3 = true then (if x9 = true then (if x6 = x8 then (if t420 = true then ((resource_Check.f x398000 x398001 x398002).bind fun t421 => ((majordomoref06_Check.f k x396000 x396001 x396002).bind fun t422 => (some (t421 == t422)))) else (some false)) else (some false)) else (some false)) else (some false)))
def majordomolaw06_ResourceChecks.f (k : Nat) (a0_0 : ByteArray) (a0_1 : ByteArray) (l0_2 : List (S31)) : Option (Bool) := (majordomolaw06_shown.f).bind fun t396 => ((some (([] : List (S31)) : List (S31))).bind fun y398 => (if y398.length + l0_2.length < 4398046511104 then ((some (y398 ++ l0_2 : List (S31))).bind fun y401 => ((resource_Full.f a0_0 a0_1 y401).bind fun bt404 => ((majordomoref06_Full.f k a0_0 a0_1 l0_2).bind fun bt411 => ((majordomoref06_Same.f k bt404.1 bt404.2.1 bt404.2.2.1 bt411.1 bt411.2.1 bt411.2.2.1).bind fun t418 => (majordomolaw06_ResourceChecks.l0 k t396 bt404.2.2.2 bt411.2.2.2 t418 0 a0_0 a0_1 l0_2 a0_0 a0_1 y401 bt404.1 bt404.2.1 bt404.2.2.1))))) else (none)))
def majordomolaw06_ResourceChecks.T12 : Bool × List (List Nat × List Nat) := (true, [([], []), ([0], [0]), ([1], [1]), ([1, 2], [1, 2]), ([3, 1], [3]), ([4], [4]), ([4], [4]), ([5, 6, 4], [4, 5, 6]), ([4, 7], [4, 7]), ([8, 4], [8]), ([9], [9]), ([9, 10], [9, 10]), ([11, 9], [11]), ([12], [12]), ([13, 12, 12], [12, 13]), ([12], [12]), ([15, 14, 12], [12, 15]), ([14, 16, 12], [12, 14, 16]), ([12, 17], [12, 17]), ([18, 16, 0, 1, 2, 3, 4, 5, 6, 7, 8, 9, 10, 11, 12, 13, 14, 15, 16, 17, 18], [18])])
def majordomolaw06_ResourceChecks.B12 : List Nat := [0, 1, 3, 7, 15, 31, 31, 127, 255, 511, 1023, 2047, 4095, 8191, 16383, 8191, 65535, 131071, 262143, 524287]
theorem majordomolaw06_ResourceChecks.tab12 : rtab .any (opsOf Tryz.f3 12) = majordomolaw06_ResourceChecks.T12 := by kernel_rfl
theorem majordomolaw06_ResourceChecks.bits12 : waitsOk majordomolaw06_ResourceChecks.T12.2 majordomolaw06_ResourceChecks.B12 = true := by kernel_rfl
set_option maxHeartbeats 8000000 in
set_option maxRecDepth 100000 in
theorem majordomolaw06_ResourceChecks.calls (k : Nat) (a0_0 : ByteArray) (a0_1 : ByteArray) (A0_2 : Option Addr) (c0_2 : Nat) (l0_2 : List (S31)) (r : Bool) (w : World) (hr0_2 : Kd.C k31 w A0_2 l0_2.length l0_2) (hc0_2 : l0_2.length ≤ c0_2) (h : majordomolaw06_ResourceChecks.f k a0_0 a0_1 l0_2 = some r) (hU : UtfOk w) (hr : r = true) :
 Calls Tryz.prog 3 #[.agg #[.string a0_0, .string a0_1, .slice A0_2 l0_2.length c0_2]] w fun e w' => e = .returned (.bool r) ∧ Below w.heap.size w w' := by
 have HRR := As.mk hr
 clear hr
 have HU := As.mk hU
 clear hU
 have hu24 := Tryz.underlying24
 have HR0_2 := As.mk hr0_2
 have HC0_2 := As.mk hc0_2
 clear hr0_2 hc0_2
 have HB := As.mk (Below.refl w.heap.size w)
 have H : ((majordomolaw06_shown.f).bind fun t396 => ((some (([] : List (S31)) : List (S31))).bind fun y398 => (if y398.length + l0_2.length < 4398046511104 then ((some (y398 ++ l0_2 : List (S31))).bind fun y401 => ((resource_Full.f a0_0 a0_1 y401).bind fun bt404 => ((majordomoref06_Full.f k a0_0 a0_1 l0_2).bind fun bt411 => ((majordomoref06_Same.f k bt404.1 bt404.2.1 bt404.2.2.1 bt411.1 bt411.2.1 bt411.2.2.1).bind fun t418 => (majordomolaw06_ResourceChecks.l0 k t396 bt404.2.2.2 bt411.2.2.2 t418 0 a0_0 a0_1 l0_2 a0_0 a0_1 y401 bt404.1 bt404.2.1 bt404.2.2.1))))) else (none)))) = some r := h
 clear h
 replace H := Option.bind_eq_some_iff.mp H
 obtain ⟨t396, A20, H⟩ := H
 replace H : ((some (([] : List (S31)) : List (S31))).bind fun y398 => (if y398.length + l0_2.length < 4398046511104 then ((some (y398 ++ l0_2 : List (S31))).bind fun y401 => ((resource_Full.f a0_0 a0_1 y401).bind fun bt404 => ((majordomoref06_Full.f k a0_0 a0_1 l0_2).bind fun bt411 => ((majordomoref06_Same.f k bt404.1 bt404.2.1 bt404.2.2.1 bt411.1 bt411.2.1 bt411.2.2.1).bind fun t418 => (majordomolaw06_ResourceChecks.l0 k t396 bt404.2.2.2 bt411.2.2.2 t418 0 a0_0 a0_1 l0_2 a0_0 a0_1 y401 bt404.1 bt404.2.1 bt404.2.2.1))))) else (none))) = some r := H
 have A2 := As.mk A20
 clear A20
 obtain ⟨y398, hy398⟩ : ∃ y_ : List (S31), y_ = (([] : List (S31))) := ⟨_, rfl⟩
 replace H : (if y398.length + l0_2.length < 4398046511104 then ((some (y398 ++ l0_2 : List (S31))).bind fun y401 => ((resource_Full.f a0_0 a0_1 y401).bind fun bt404 => ((majordomoref06_Full.f k a0_0 a0_1 l0_2).bind fun bt411 => ((majordomoref06_Same.f k bt404.1 bt404.2.1 bt404.2.2.1 bt411.1 bt411.2.1 bt411.2.2.1).bind fun t418 => (majordomolaw06_ResourceChecks.l0 k t396 bt404.2.2.2 bt411.2.2.2 t418 0 a0_0 a0_1 l0_2 a0_0 a0_1 y401 bt404.1 bt404.2.1 bt404.2.2.1))))) else (none)) = some r := by first | (rw [hy398]; with_reducible exact H) | (have H2_ := (Option.bind_some _ _).symm.trans H; rw [hy398]; with_reducible exact H2_) | (have H2_ := (Option.bind_some _ _).symm.trans H; with_reducible exact H2_) | with_reducible exact H | (rw [hy398]; exact H) | exact H
 have Ny398 := As.mk hy398
 clear hy398
 by_cases c3 : y398.length + l0_2.length < 4398046511104
 rotate_left
 · rw [if_neg c3] at H
   exact absurd H (by simp)
 rw [if_pos c3] at H
 have LMc3 := As.mk c3
 clear c3
 obtain ⟨y401, hy401⟩ : ∃ y_ : List (S31), y_ = (y398 ++ l0_2) := ⟨_, rfl⟩
 replace H : ((resource_Full.f a0_0 a0_1 y401).bind fun bt404 => ((majordomoref06_Full.f k a0_0 a0_1 l0_2).bind fun bt411 => ((majordomoref06_Same.f k bt404.1 bt404.2.1 bt404.2.2.1 bt411.1 bt411.2.1 bt411.2.2.1).bind fun t418 => (majordomolaw06_ResourceChecks.l0 k t396 bt404.2.2.2 bt411.2.2.2 t418 0 a0_0 a0_1 l0_2 a0_0 a0_1 y401 bt404.1 bt404.2.1 bt404.2.2.1)))) = some r := by first | (rw [hy401]; with_reducible exact H) | (have H2_ := (Option.bind_some _ _).symm.trans H; rw [hy401]; with_reducible exact H2_) | (have H2_ := (Option.bind_some _ _).symm.trans H; with_reducible exact H2_) | with_reducible exact H | (rw [hy401]; exact H) | exact H
 have Ny401 := As.mk hy401
 clear hy401
 replace H := Option.bind_eq_some_iff.mp H
 obtain ⟨⟨t404, t405, t406, t409⟩, A40, H⟩ := H
 replace H : ((majordomoref06_Full.f k a0_0 a0_1 l0_2).bind fun bt411 => ((majordomoref06_Same.f k t404 t405 t406 bt411.1 bt411.2.1 bt411.2.2.1).bind fun t418 => (majordomolaw06_ResourceChecks.l0 k t396 t409 bt411.2.2.2 t418 0 a0_0 a0_1 l0_2 a0_0 a0_1 y401 t404 t405 t406))) = some r := H
 have A4 := As.mk A40
 clear A40
 replace H := Option.bind_eq_some_iff.mp H
 obtain ⟨⟨t411, t412, t413, t416⟩, A50, H⟩ := H
 replace H : ((majordomoref06_Same.f k t404 t405 t406 t411 t412 t413).bind fun t418 => (majordomolaw06_ResourceChecks.l0 k t396 t409 t416 t418 0 a0_0 a0_1 l0_2 a0_0 a0_1 y401 t404 t405 t406)) = some r := H
 have A5 := As.mk A50
 clear A50
 replace H := Option.bind_eq_some_iff.mp H
 obtain ⟨t418, A60, H⟩ := H
 replace H : (majordomolaw06_ResourceChecks.l0 k t396 t409 t416 t418 0 a0_0 a0_1 l0_2 a0_0 a0_1 y401 t404 t405 t406) = some r := H
 have A6 := As.mk A60
 clear A60
 have H' := As.mk H
 clear H
 go_enter Tryz.func3, Tryz.ntmps3
 go_wp2_with (first | ((with_reducible refine gate_dst (N := 1) rfl ?_); refine box_event ?hg (N := 1) ?hd (cs := #[.string a0_0, .string a0_1, .slice A0_2 l0_2.length c0_2]) (t := 24) ?hr ?_; (case hd => rfl); (case hg => rfl); (case hr => first | (go_simp; done) | (go_simp; rfl)); intro gb395 hg w7 hbox hb; have n0_ := As.mk (bT (by repeat (first | (with_reducible first | exact HB.out | apply bA | apply bN | apply bD) | exact HB.out)) hb); have n1_ := As.mk (hbox); have n2_ := As.mk ((by rw [hg]; exact (bZ (by repeat (first | (with_reducible first | exact HB.out | apply bA | apply bN | apply bD) | exact HB.out))) : w.heap.size ≤ gb395)); have n3_ := As.mk ((by rw [hg]; exact (bZ (by repeat (first | (with_reducible first | exact HB.out | apply bA | apply bN | apply bD) | exact HB.out))) : w.heap.size ≤ gb395)); clear HB; have HB := n0_; have BK395 := n1_; have GW395 := n2_; have GE395 := n3_; clear n0_ n1_ n2_ n3_; clear hb hbox hg) | ((with_reducible refine gate_callee (f := 10) rfl ?_); refine goesL_ (some 12) rfl rfl Tryz.func10 (by kernel_rfl) rfl #[] rfl (by (try simp only [List.map_toArray, List.map_cons, List.map_nil]); first | done | rfl | (simp only [List.length_drop, List.length_take]; rfl)) ?_; (with_reducible refine (majordomolaw06_shown.calls  t396 _ A2.out (UtfOk.of_below HU.out (by repeat (first | (with_reducible first | exact HB.out | apply bA | apply bN | apply bD | refine bS ?_ GE395.out) | exact HB.out)))).mono ?_); rintro e w8 ⟨rfl, hb⟩; refine ⟨_, rfl, ?_⟩; have n0_ := As.mk (kB (g := gb395) (o := .cells #[.string a0_0, .string a0_1, .slice A0_2 l0_2.length c0_2] 24 (0, 0)) (by (with_reducible repeat (first | refine kN ?_ _ | refine kD ?_ | refine kA ?_ _)); exact BK395.out) hb); have n1_ := As.mk (bT (by repeat (first | (with_reducible first | exact HB.out | apply bA | apply bN | apply bD | refine bS ?_ GE395.out) | exact HB.out)) hb); clear BK395; clear HB; have BK395 := n0_; have HB := n1_; clear n0_ n1_; (try clear hb); (try clear hb2); (try clear hk); (try clear hi); have hcz9_0 : w8.cell? ⟨gb395, 0, none⟩ = some (.string a0_0) := (kC BK395.out 0).trans rfl; have hcz9_1 : w8.cell? ⟨gb395, 1, none⟩ = some (.string a0_1) := (kC BK395.out 1).trans rfl; have hcz9_2 : w8.cell? ⟨gb395, 2, none⟩ = some (.slice A0_2 l0_2.length c0_2) := (kC BK395.out 2).trans rfl; have hfz9_0 := kF BK395.out 0; have hfz9_1 := kF BK395.out 1; have hfz9_2 := kF BK395.out 2) | ((with_reducible refine gate_dst (N := 4) rfl ?_); refine box_event ?hg (N := 4) ?hd (cs := #[.string (⟨#[]⟩ : ByteArray), .string (⟨#[]⟩ : ByteArray), .slice none 0 0]) (t := 24) ?hr ?_; (case hd => rfl); (case hg => rfl); (case hr => first | (go_simp; done) | (go_simp; rfl)); intro gb397 hg w10 hbox hb; have n0_ := As.mk (kB (g := gb395) (o := .cells #[.string a0_0, .string a0_1, .slice A0_2 l0_2.length c0_2] 24 (0, 0)) (by (with_reducible repeat (first | refine kN ?_ _ | refine kD ?_ | refine kA ?_ _)); exact BK395.out) hb); have n1_ := As.mk (bT (by repeat (first | (with_reducible first | exact HB.out | apply bA | apply bN | apply bD | refine bS ?_ GE395.out) | exact HB.out)) hb); have n2_ := As.mk (hbox); have n3_ := As.mk ((by rw [hg]; exact (bZ (by repeat (first | (with_reducible first | exact HB.out | apply bA | apply bN | apply bD | refine bS ?_ GE395.out) | exact HB.out))) : w.heap.size ≤ gb397)); have n4_ := As.mk ((by rw [hg]; exact (bZ (by repeat (first | (with_reducible first | exact HB.out | apply bA | apply bN | apply bD | refine bS ?_ GE395.out) | exact HB.out))) : w.heap.size ≤ gb397)); have n5_ := As.mk ((by rw [hg]; exact Nat.ne_of_lt (blk_lt (g := gb395) (o := .cells #[.string a0_0, .string a0_1, .slice A0_2 l0_2.length c0_2] 24 (0, 0)) (by (with_reducible repeat (first | refine kN ?_ _ | refine kD ?_ | refine kA ?_ _)); exact BK395.out)) : gb395 ≠ gb397)); have n6_ := As.mk ((by rw [hg]; exact Nat.ne_of_gt (blk_lt (g := gb395) (o := .cells #[.string a0_0, .string a0_1, .slice A0_2 l0_2.length c0_2] 24 (0, 0)) (by (with_reducible repeat (first | refine kN ?_ _ | refine kD ?_ | refine kA ?_ _)); exact BK395.out)) : gb397 ≠ gb395)); clear BK395; clear HB; have BK395 := n0_; have HB := n1_; have BK397 := n2_; have GW397 := n3_; have GE397 := n4_; have NB395_397 := n5_; have NB397_395 := n6_; clear n0_ n1_ n2_ n3_ n4_ n5_ n6_; clear hb hbox hg; have hnb11 := NB397_395.out; have hnc11 := NB395_397.out; have hcz12_0 : w10.cell? ⟨gb397, 0, none⟩ = some (.string (⟨#[]⟩ : ByteArray)) := (kC BK397.out 0).trans rfl; have hcz12_1 : w10.cell? ⟨gb397, 1, none⟩ = some (.string (⟨#[]⟩ : ByteArray)) := (kC BK397.out 1).trans rfl; have hcz12_2 : w10.cell? ⟨gb397, 2, none⟩ = some (.slice none 0 0) := (kC BK397.out 2).trans rfl; have hfz12_0 := kF BK397.out 0; have hfz12_1 := kF BK397.out 1; have hfz12_2 := kF BK397.out 2) | ((with_reducible refine gate_dst (N := 14) rfl ?_); refine Kd.R_lit k31 _ 31 ?hg (N := 14) ?hd (xs := ([] : List (S31))) (inner := []) (ok := fun _ => True) (okp := fun _ => True) ?hr ?hp (fun _ hk => hk) trivial (Below.refl _ _) (Nat.le_refl _) (by simp) ?_; (case hd => rfl); (case hg => rfl); (case hr => first | (go_simp; done) | (go_simp; rfl)); (case hp => exact (Reps.none _ _)); intro v399 w13 ho14 hb hg_ hnew_; clear hg_ hnew_; (first | rw [← Ny398.out] at ho14 | (simp only [Int.reduceToNat] at ho14; rw [← Ny398.out] at ho14)); have n0_ := As.mk (Kd.R_lower ho14 (bZ (by repeat (first | (with_reducible first | exact HB.out | apply bA | apply bN | apply bD | refine bS ?_ GE395.out | refine bS ?_ GE397.out) | exact HB.out)))); have n1_ := As.mk (kB (g := gb395) (o := .cells #[.string a0_0, .string a0_1, .slice A0_2 l0_2.length c0_2] 24 (0, 0)) (by (with_reducible repeat (first | refine kN ?_ _ | refine kD ?_ | refine kA ?_ _)); refine kR ?_ NB395_397.out _; (with_reducible repeat (first | refine kN ?_ _ | refine kD ?_ | refine kA ?_ _)); refine kR ?_ NB395_397.out _; (with_reducible repeat (first | refine kN ?_ _ | refine kD ?_ | refine kA ?_ _)); refine kR ?_ NB395_397.out _; (with_reducible repeat (first | refine kN ?_ _ | refine kD ?_ | refine kA ?_ _)); exact BK395.out) hb); have n2_ := As.mk (kB (g := gb397) (o := .cells #[.string a0_0, .string a0_1, .slice A0_2 l0_2.length c0_2] 24 (0, 0)) (by (with_reducible repeat (first | refine kN ?_ _ | refine kD ?_ | refine kA ?_ _)); refine kP (cs := #[.string a0_0, .string a0_1, .slice none 0 0]) ?_ 2 _ rfl; (with_reducible repeat (first | refine kN ?_ _ | refine kD ?_ | refine kA ?_ _)); refine kP (cs := #[.string a0_0, .string (⟨#[]⟩ : ByteArray), .slice none 0 0]) ?_ 1 _ rfl; (with_reducible repeat (first | refine kN ?_ _ | refine kD ?_ | refine kA ?_ _)); refine kP (cs := #[.string (⟨#[]⟩ : ByteArray), .string (⟨#[]⟩ : ByteArray), .slice none 0 0]) ?_ 0 _ rfl; (with_reducible repeat (first | refine kN ?_ _ | refine kD ?_ | refine kA ?_ _)); exact BK397.out) hb); have n3_ := As.mk (bT (by repeat (first | (with_reducible first | exact HB.out | apply bA | apply bN | apply bD | refine bS ?_ GE395.out | refine bS ?_ GE397.out) | exact HB.out)) hb); clear BK395; clear BK397; clear HB; have HO400 := n0_; have BK395 := n1_; have BK397 := n2_; have HB := n3_; clear n0_ n1_ n2_ n3_; clear hb ho14; have hcz15_0 : w13.cell? ⟨gb395, 0, none⟩ = some (.string a0_0) := (kC BK395.out 0).trans rfl; have hcz15_1 : w13.cell? ⟨gb395, 1, none⟩ = some (.string a0_1) := (kC BK395.out 1).trans rfl; have hcz15_2 : w13.cell? ⟨gb395, 2, none⟩ = some (.slice A0_2 l0_2.length c0_2) := (kC BK395.out 2).trans rfl; have hfz15_0 := kF BK395.out 0; have hfz15_1 := kF BK395.out 1; have hfz15_2 := kF BK395.out 2) | ((with_reducible refine gate_builtin (b := .append) (xs := #[.tmp 14, .tmp 16]) rfl ?_); at_builtin; refine Kd.R_append_rows k31 (w0 := w) w.heap.size rfl (.tmp 14) (.tmp 16) 22 31 (.agg #[(.string ⟨#[]⟩), (.string ⟨#[]⟩)]) 32 rfl Tryz.underlying22 info31 rfl (by decide) (by omega) v399 y398 l0_2 _ _ _ (fun _ => True) (fun _ => False) rfl rfl ?aO ?aR (fun _ _ h => h) (fun _ h => h.elim) ?aF ?aB ?aS ?aL ?_; (case aR => repeat (first | exact (Kd.C_below HR0_2.out HB.out) | (with_reducible refine Kd.C_alloc ?_ _) | (with_reducible refine Kd.C_drewN ?_ _) | (with_reducible refine Kd.C_drew ?_))); (case aB => exact (by repeat (first | (with_reducible first | exact HB.out | apply bA | apply bN | apply bD | refine bS ?_ GE395.out | refine bS ?_ GE397.out) | exact HB.out))); (case aF => exact (fun _ _ => trivial)); (case aO => exact (by (with_reducible repeat (first | apply Kd.R_alloc | apply Kd.R_drewN | apply Kd.R_drew)); exact HO400.out)); (case aS => exact (bZ (by repeat (first | (with_reducible first | exact HB.out | apply bA | apply bN | apply bD | refine bS ?_ GE395.out | refine bS ?_ GE397.out) | exact HB.out)))); (case aL => have := LMc3.out; omega); intro v402 w16 ho hb hg hat; rw [← Ny401.out] at ho; have n0_ := As.mk (blk_grown (g := gb395) (o := .cells #[.string a0_0, .string a0_1, .slice A0_2 l0_2.length c0_2] 24 (0, 0)) (by (with_reducible repeat (first | refine kN ?_ _ | refine kD ?_ | refine kA ?_ _)); exact BK395.out) hg (Kd.R_ne HO400.out BK395.out (by decide))); have n1_ := As.mk (blk_grown (g := gb397) (o := .cells #[.string a0_0, .string a0_1, .slice A0_2 l0_2.length c0_2] 24 (0, 0)) (by (with_reducible repeat (first | refine kN ?_ _ | refine kD ?_ | refine kA ?_ _)); exact BK397.out) hg (Kd.R_ne HO400.out BK397.out (by decide))); have n2_ := As.mk (hb); have n3_ := As.mk (ho); clear BK395; clear BK397; clear HB; clear HO400; have BK395 := n0_; have BK397 := n1_; have HB := n2_; have HO403 := n3_; clear n0_ n1_ n2_ n3_; clear ho hb hg hat; obtain ⟨Ao17, co17, eo17⟩ := Kd.R_slice HO403.out; subst eo17; have hcz18_0 : w16.cell? ⟨gb397, 0, none⟩ = some (.string a0_0) := (kC BK397.out 0).trans rfl; have hcz18_1 : w16.cell? ⟨gb397, 1, none⟩ = some (.string a0_1) := (kC BK397.out 1).trans rfl; have hcz18_2 : w16.cell? ⟨gb397, 2, none⟩ = some (.slice A0_2 l0_2.length c0_2) := (kC BK397.out 2).trans rfl; have hfz18_0 := kF BK397.out 0; have hfz18_1 := kF BK397.out 1; have hfz18_2 := kF BK397.out 2) | ((with_reducible refine gate_callee (f := 11) rfl ?_); refine goesL_ (some 21) rfl rfl Tryz.func11 (by kernel_rfl) rfl #[.agg #[.string a0_0, .string a0_1, .slice Ao17 y401.length co17]] rfl (by (try simp only [List.map_toArray, List.map_cons, List.map_nil]); first | done | rfl | (simp only [List.length_drop, List.length_take]; rfl)) ?_; (with_reducible refine (resource_Full.calls a0_0 a0_1 _ _ y401 t404 t405 t406 t409 _ ?side1 ?side2 A4.out (UtfOk.of_below HU.out (by repeat (first | (with_reducible first | exact HB.out | apply bA | apply bN | apply bD | refine bS ?_ GE395.out | refine bS ?_ GE397.out) | exact HB.out)))).mono ?_); (case side1 => refine (Kd.R_reads' (e := 31) (base := w.heap.size) (ok := fun k_ => True) (n := y401.length) (c := co17) ?_).2.2; exact (by (with_reducible repeat (first | apply Kd.R_alloc | apply Kd.R_drewN | apply Kd.R_drew)); exact (Kd.R_mono (Kd.R_far (p := ⟨gb397, 2, none⟩) (Kd.R_types HO403.out BK397.out (by decide)) (fun _ hk => hk.2) (.slice Ao17 y401.length co17)) (fun _ h_ => h_.1)))); (case side2 => exact (Kd.R_reads' HO403.out).2.1); rintro e w19 ⟨v407, rfl, ho0, hb⟩; refine ⟨_, rfl, ?_⟩; have n0_ := As.mk (Kd.R_elder' (by (with_reducible repeat (first | apply Kd.R_alloc | apply Kd.R_drewN | apply Kd.R_drew)); exact (Kd.R_mono (Kd.R_far (p := ⟨gb397, 2, none⟩) (Kd.R_types HO403.out BK397.out (by decide)) (fun _ hk => hk.2) (.slice Ao17 y401.length co17)) (fun _ h_ => h_.1))) (Kd.R_base ho0) hb); have n1_ := As.mk (Kd.R_lower (Kd.R_new' ho0 (Kd.R_lt (by (with_reducible repeat (first | apply Kd.R_alloc | apply Kd.R_drewN | apply Kd.R_drew)); exact (Kd.R_mono (Kd.R_far (p := ⟨gb397, 2, none⟩) (Kd.R_types HO403.out BK397.out (by decide)) (fun _ hk => hk.2) (.slice Ao17 y401.length co17)) (fun _ h_ => h_.1))))) (bZ (by repeat (first | (with_reducible first | exact HB.out | apply bA | apply bN | apply bD | refine bS ?_ GE395.out | refine bS ?_ GE397.out) | exact HB.out)))); have n2_ := As.mk (kB (g := gb395) (o := .cells #[.string a0_0, .string a0_1, .slice A0_2 l0_2.length c0_2] 24 (0, 0)) (by (with_reducible repeat (first | refine kN ?_ _ | refine kD ?_ | refine kA ?_ _)); refine kR ?_ NB395_397.out _; (with_reducible repeat (first | refine kN ?_ _ | refine kD ?_ | refine kA ?_ _)); exact BK395.out) hb); have n3_ := As.mk (kB (g := gb397) (o := .cells #[.string a0_0, .string a0_1, .slice Ao17 y401.length co17] 24 (0, 0)) (by (with_reducible repeat (first | refine kN ?_ _ | refine kD ?_ | refine kA ?_ _)); refine kP (cs := #[.string a0_0, .string a0_1, .slice A0_2 l0_2.length c0_2]) ?_ 2 _ rfl; (with_reducible repeat (first | refine kN ?_ _ | refine kD ?_ | refine kA ?_ _)); exact BK397.out) hb); have n4_ := As.mk (bT (by repeat (first | (with_reducible first | exact HB.out | apply bA | apply bN | apply bD | refine bS ?_ GE395.out | refine bS ?_ GE397.out) | exact HB.out)) hb); clear HO403; clear BK395; clear BK397; clear HB; have HO403 := n0_; have HO408 := n1_; have BK395 := n2_; have BK397 := n3_; have HB := n4_; clear n0_ n1_ n2_ n3_ n4_; (try clear hb); (try clear hb2); (try clear hk); (try clear hi); (try clear ho0)) | ((with_reducible refine gate_dst (N := 5) rfl ?_); refine box_event ?hg (N := 5) ?hd (cs := #[.string (⟨#[]⟩ : ByteArray), .string (⟨#[]⟩ : ByteArray), .slice none 0 0]) (t := 24) ?hr ?_; (case hd => rfl); (case hg => rfl); (case hr => first | (go_simp; done) | (go_simp; rfl)); intro gb410 hg w20 hbox hb; have n0_ := As.mk (Kd.R_below (by (with_reducible repeat (first | apply Kd.R_alloc | apply Kd.R_drewN | apply Kd.R_drew)); exact HO403.out) hb); have n1_ := As.mk (Kd.R_below (by (with_reducible repeat (first | apply Kd.R_alloc | apply Kd.R_drewN | apply Kd.R_drew)); exact HO408.out) hb); have n2_ := As.mk (kB (g := gb395) (o := .cells #[.string a0_0, .string a0_1, .slice A0_2 l0_2.length c0_2] 24 (0, 0)) (by (with_reducible repeat (first | refine kN ?_ _ | refine kD ?_ | refine kA ?_ _)); exact BK395.out) hb); have n3_ := As.mk (kB (g := gb397) (o := .cells #[.string a0_0, .string a0_1, .slice Ao17 y401.length co17] 24 (0, 0)) (by (with_reducible repeat (first | refine kN ?_ _ | refine kD ?_ | refine kA ?_ _)); exact BK397.out) hb); have n4_ := As.mk (bT (by repeat (first | (with_reducible first | exact HB.out | apply bA | apply bN | apply bD | refine bS ?_ GE395.out | refine bS ?_ GE397.out) | exact HB.out)) hb); have n5_ := As.mk (hbox); have n6_ := As.mk ((by rw [hg]; exact (bZ (by repeat (first | (with_reducible first | exact HB.out | apply bA | apply bN | apply bD | refine bS ?_ GE395.out | refine bS ?_ GE397.out) | exact HB.out))) : w.heap.size ≤ gb410)); have n7_ := As.mk ((by rw [hg]; exact (bZ (by repeat (first | (with_reducible first | exact HB.out | apply bA | apply bN | apply bD | refine bS ?_ GE395.out | refine bS ?_ GE397.out) | exact HB.out))) : w.heap.size ≤ gb410)); have n8_ := As.mk ((by rw [hg]; exact Nat.ne_of_lt (blk_lt (g := gb395) (o := .cells #[.string a0_0, .string a0_1, .slice A0_2 l0_2.length c0_2] 24 (0, 0)) (by (with_reducible repeat (first | refine kN ?_ _ | refine kD ?_ | refine kA ?_ _)); exact BK395.out)) : gb395 ≠ gb410)); have n9_ := As.mk ((by rw [hg]; exact Nat.ne_of_gt (blk_lt (g := gb395) (o := .cells #[.string a0_0, .string a0_1, .slice A0_2 l0_2.length c0_2] 24 (0, 0)) (by (with_reducible repeat (first | refine kN ?_ _ | refine kD ?_ | refine kA ?_ _)); exact BK395.out)) : gb410 ≠ gb395)); have n10_ := As.mk ((by rw [hg]; exact Nat.ne_of_lt (blk_lt (g := gb397) (o := .cells #[.string a0_0, .string a0_1, .slice Ao17 y401.length co17] 24 (0, 0)) (by (with_reducible repeat (first | refine kN ?_ _ | refine kD ?_ | refine kA ?_ _)); exact BK397.out)) : gb397 ≠ gb410)); have n11_ := As.mk ((by rw [hg]; exact Nat.ne_of_gt (blk_lt (g := gb397) (o := .cells #[.string a0_0, .string a0_1, .slice Ao17 y401.length co17] 24 (0, 0)) (by (with_reducible repeat (first | refine kN ?_ _ | refine kD ?_ | refine kA ?_ _)); exact BK397.out)) : gb410 ≠ gb397)); clear HO403; clear HO408; clear BK395; clear BK397; clear HB; have HO403 := n0_; have HO408 := n1_; have BK395 := n2_; have BK397 := n3_; have HB := n4_; have BK410 := n5_; have GW410 := n6_; have GE410 := n7_; have NB395_410 := n8_; have NB410_395 := n9_; have NB397_410 := n10_; have NB410_397 := n11_; clear n0_ n1_ n2_ n3_ n4_ n5_ n6_ n7_ n8_ n9_ n10_ n11_; clear hb hbox hg; have hnb21 := NB410_395.out; have hnc21 := NB395_410.out; have hnb22 := NB410_397.out; have hnc22 := NB397_410.out; have hcz23_0 : w20.cell? ⟨gb410, 0, none⟩ = some (.string (⟨#[]⟩ : ByteArray)) := (kC BK410.out 0).trans rfl; have hcz23_1 : w20.cell? ⟨gb410, 1, none⟩ = some (.string (⟨#[]⟩ : ByteArray)) := (kC BK410.out 1).trans rfl; have hcz23_2 : w20.cell? ⟨gb410, 2, none⟩ = some (.slice none 0 0) := (kC BK410.out 2).trans rfl; have hfz23_0 := kF BK410.out 0; have hfz23_1 := kF BK410.out 1; have hfz23_2 := kF BK410.out 2; obtain ⟨Ao24, co24, eo24⟩ := Kd.R_slice HO408.out; subst eo24; have hcz25_0 : w20.cell? ⟨gb395, 0, none⟩ = some (.string a0_0) := (kC BK395.out 0).trans rfl; have hcz25_1 : w20.cell? ⟨gb395, 1, none⟩ = some (.string a0_1) := (kC BK395.out 1).trans rfl; have hcz25_2 : w20.cell? ⟨gb395, 2, none⟩ = some (.slice A0_2 l0_2.length c0_2) := (kC BK395.out 2).trans rfl; have hfz25_0 := kF BK395.out 0; have hfz25_1 := kF BK395.out 1; have hfz25_2 := kF BK395.out 2) | ((with_reducible refine gate_callee (f := 12) rfl ?_); refine goesL_ (some 26) rfl rfl Tryz.func12 (by kernel_rfl) rfl #[.agg #[.string a0_0, .string a0_1, .slice A0_2 l0_2.length c0_2]] rfl (by (try simp only [List.map_toArray, List.map_cons, List.map_nil]); first | done | rfl | (simp only [List.length_drop, List.length_take]; rfl)) ?_; (with_reducible refine (majordomoref06_Full.calls k a0_0 a0_1 _ _ l0_2 t411 t412 t413 t416 _ ?side1 ?side2 A5.out).mono ?_); (case side1 => exact Kd.C_below HR0_2.out (by repeat (first | (with_reducible first | exact HB.out | apply bA | apply bN | apply bD | refine bS ?_ GE395.out | refine bS ?_ GE397.out | refine bS ?_ GE410.out) | exact HB.out))); (case side2 => exact HC0_2.out); rintro e w26 ⟨v414, rfl, ho0, hb⟩; refine ⟨_, rfl, ?_⟩; have n0_ := As.mk (Kd.R_elder' (by (with_reducible repeat (first | apply Kd.R_alloc | apply Kd.R_drewN | apply Kd.R_drew)); exact (Kd.R_mono (Kd.R_far (p := ⟨gb410, 2, none⟩) (Kd.R_far (p := ⟨gb410, 1, none⟩) (Kd.R_far (p := ⟨gb410, 0, none⟩) (Kd.R_types HO403.out BK410.out (by decide)) (fun _ hk => hk.2) (.string t404)) (fun _ hk => hk.2) (.string t405)) (fun _ hk => hk.2) (.slice Ao24 t406.length co24)) (fun _ h_ => h_.1))) (Kd.R_base ho0) hb); have n1_ := As.mk (Kd.R_elder' (by (with_reducible repeat (first | apply Kd.R_alloc | apply Kd.R_drewN | apply Kd.R_drew)); exact (Kd.R_mono (Kd.R_far (p := ⟨gb410, 2, none⟩) (Kd.R_far (p := ⟨gb410, 1, none⟩) (Kd.R_far (p := ⟨gb410, 0, none⟩) (Kd.R_types HO408.out BK410.out (by decide)) (fun _ hk => hk.2) (.string t404)) (fun _ hk => hk.2) (.string t405)) (fun _ hk => hk.2) (.slice Ao24 t406.length co24)) (fun _ h_ => h_.1))) (Kd.R_base ho0) hb); have n2_ := As.mk (Kd.R_lower (Kd.R_new' (Kd.R_new' ho0 (Kd.R_lt (by (with_reducible repeat (first | apply Kd.R_alloc | apply Kd.R_drewN | apply Kd.R_drew)); exact (Kd.R_mono (Kd.R_far (p := ⟨gb410, 2, none⟩) (Kd.R_far (p := ⟨gb410, 1, none⟩) (Kd.R_far (p := ⟨gb410, 0, none⟩) (Kd.R_types HO403.out BK410.out (by decide)) (fun _ hk => hk.2) (.string t404)) (fun _ hk => hk.2) (.string t405)) (fun _ hk => hk.2) (.slice Ao24 t406.length co24)) (fun _ h_ => h_.1))))) (Kd.R_lt (by (with_reducible repeat (first | apply Kd.R_alloc | apply Kd.R_drewN | apply Kd.R_drew)); exact (Kd.R_mono (Kd.R_far (p := ⟨gb410, 2, none⟩) (Kd.R_far (p := ⟨gb410, 1, none⟩) (Kd.R_far (p := ⟨gb410, 0, none⟩) (Kd.R_types HO408.out BK410.out (by decide)) (fun _ hk => hk.2) (.string t404)) (fun _ hk => hk.2) (.string t405)) (fun _ hk => hk.2) (.slice Ao24 t406.length co24)) (fun _ h_ => h_.1))))) (bZ (by repeat (first | (with_reducible first | exact HB.out | apply bA | apply bN | apply bD | refine bS ?_ GE395.out | refine bS ?_ GE397.out | refine bS ?_ GE410.out) | exact HB.out)))); have n3_ := As.mk (kB (g := gb395) (o := .cells #[.string a0_0, .string a0_1, .slice A0_2 l0_2.length c0_2] 24 (0, 0)) (by (with_reducible repeat (first | refine kN ?_ _ | refine kD ?_ | refine kA ?_ _)); refine kR ?_ NB395_410.out _; (with_reducible repeat (first | refine kN ?_ _ | refine kD ?_ | refine kA ?_ _)); refine kR ?_ NB395_410.out _; (with_reducible repeat (first | refine kN ?_ _ | refine kD ?_ | refine kA ?_ _)); refine kR ?_ NB395_410.out _; (with_reducible repeat (first | refine kN ?_ _ | refine kD ?_ | refine kA ?_ _)); exact BK395.out) hb); have n4_ := As.mk (kB (g := gb397) (o := .cells #[.string a0_0, .string a0_1, .slice Ao17 y401.length co17] 24 (0, 0)) (by (with_reducible repeat (first | refine kN ?_ _ | refine kD ?_ | refine kA ?_ _)); refine kR ?_ NB397_410.out _; (with_reducible repeat (first | refine kN ?_ _ | refine kD ?_ | refine kA ?_ _)); refine kR ?_ NB397_410.out _; (with_reducible repeat (first | refine kN ?_ _ | refine kD ?_ | refine kA ?_ _)); refine kR ?_ NB397_410.out _; (with_reducible repeat (first | refine kN ?_ _ | refine kD ?_ | refine kA ?_ _)); exact BK397.out) hb); have n5_ := As.mk (kB (g := gb410) (o := .cells #[.string t404, .string t405, .slice Ao24 t406.length co24] 24 (0, 0)) (by (with_reducible repeat (first | refine kN ?_ _ | refine kD ?_ | refine kA ?_ _)); refine kP (cs := #[.string t404, .string t405, .slice none 0 0]) ?_ 2 _ rfl; (with_reducible repeat (first | refine kN ?_ _ | refine kD ?_ | refine kA ?_ _)); refine kP (cs := #[.string t404, .string (⟨#[]⟩ : ByteArray), .slice none 0 0]) ?_ 1 _ rfl; (with_reducible repeat (first | refine kN ?_ _ | refine kD ?_ | refine kA ?_ _)); refine kP (cs := #[.string (⟨#[]⟩ : ByteArray), .string (⟨#[]⟩ : ByteArray), .slice none 0 0]) ?_ 0 _ rfl; (with_reducible repeat (first | refine kN ?_ _ | refine kD ?_ | refine kA ?_ _)); exact BK410.out) hb); have n6_ := As.mk (bT (by repeat (first | (with_reducible first | exact HB.out | apply bA | apply bN | apply bD | refine bS ?_ GE395.out | refine bS ?_ GE397.out | refine bS ?_ GE410.out) | exact HB.out)) hb); clear HO403; clear HO408; clear BK395; clear BK397; clear BK410; clear HB; have HO403 := n0_; have HO408 := n1_; have HO415 := n2_; have BK395 := n3_; have BK397 := n4_; have BK410 := n5_; have HB := n6_; clear n0_ n1_ n2_ n3_ n4_ n5_ n6_; (try clear hb); (try clear hb2); (try clear hk); (try clear hi); (try clear ho0)) | ((with_reducible refine gate_dst (N := 7) rfl ?_); refine box_event ?hg (N := 7) ?hd (cs := #[.string (⟨#[]⟩ : ByteArray), .string (⟨#[]⟩ : ByteArray), .slice none 0 0]) (t := 24) ?hr ?_; (case hd => rfl); (case hg => rfl); (case hr => first | (go_simp; done) | (go_simp; rfl)); intro gb417 hg w27 hbox hb; have n0_ := As.mk (Kd.R_below (by (with_reducible repeat (first | apply Kd.R_alloc | apply Kd.R_drewN | apply Kd.R_drew)); exact HO403.out) hb); have n1_ := As.mk (Kd.R_below (by (with_reducible repeat (first | apply Kd.R_alloc | apply Kd.R_drewN | apply Kd.R_drew)); exact HO408.out) hb); have n2_ := As.mk (Kd.R_below (by (with_reducible repeat (first | apply Kd.R_alloc | apply Kd.R_drewN | apply Kd.R_drew)); exact HO415.out) hb); have n3_ := As.mk (kB (g := gb395) (o := .cells #[.string a0_0, .string a0_1, .slice A0_2 l0_2.length c0_2] 24 (0, 0)) (by (with_reducible repeat (first | refine kN ?_ _ | refine kD ?_ | refine kA ?_ _)); exact BK395.out) hb); have n4_ := As.mk (kB (g := gb397) (o := .cells #[.string a0_0, .string a0_1, .slice Ao17 y401.length co17] 24 (0, 0)) (by (with_reducible repeat (first | refine kN ?_ _ | refine kD ?_ | refine kA ?_ _)); exact BK397.out) hb); have n5_ := As.mk (kB (g := gb410) (o := .cells #[.string t404, .string t405, .slice Ao24 t406.length co24] 24 (0, 0)) (by (with_reducible repeat (first | refine kN ?_ _ | refine kD ?_ | refine kA ?_ _)); exact BK410.out) hb); have n6_ := As.mk (bT (by repeat (first | (with_reducible first | exact HB.out | apply bA | apply bN | apply bD | refine bS ?_ GE395.out | refine bS ?_ GE397.out | refine bS ?_ GE410.out) | exact HB.out)) hb); have n7_ := As.mk (hbox); have n8_ := As.mk ((by rw [hg]; exact (bZ (by repeat (first | (with_reducible first | exact HB.out | apply bA | apply bN | apply bD | refine bS ?_ GE395.out | refine bS ?_ GE397.out | refine bS ?_ GE410.out) | exact HB.out))) : w.heap.size ≤ gb417)); have n9_ := As.mk ((by rw [hg]; exact (bZ (by repeat (first | (with_reducible first | exact HB.out | apply bA | apply bN | apply bD | refine bS ?_ GE395.out | refine bS ?_ GE397.out | refine bS ?_ GE410.out) | exact HB.out))) : w.heap.size ≤ gb417)); have n10_ := As.mk ((by rw [hg]; exact Nat.ne_of_lt (blk_lt (g := gb395) (o := .cells #[.string a0_0, .string a0_1, .slice A0_2 l0_2.length c0_2] 24 (0, 0)) (by (with_reducible repeat (first | refine kN ?_ _ | refine kD ?_ | refine kA ?_ _)); exact BK395.out)) : gb395 ≠ gb417)); have n11_ := As.mk ((by rw [hg]; exact Nat.ne_of_gt (blk_lt (g := gb395) (o := .cells #[.string a0_0, .string a0_1, .slice A0_2 l0_2.length c0_2] 24 (0, 0)) (by (with_reducible repeat (first | refine kN ?_ _ | refine kD ?_ | refine kA ?_ _)); exact BK395.out)) : gb417 ≠ gb395)); have n12_ := As.mk ((by rw [hg]; exact Nat.ne_of_lt (blk_lt (g := gb397) (o := .cells #[.string a0_0, .string a0_1, .slice Ao17 y401.length co17] 24 (0, 0)) (by (with_reducible repeat (first | refine kN ?_ _ | refine kD ?_ | refine kA ?_ _)); exact BK397.out)) : gb397 ≠ gb417)); have n13_ := As.mk ((by rw [hg]; exact Nat.ne_of_gt (blk_lt (g := gb397) (o := .cells #[.string a0_0, .string a0_1, .slice Ao17 y401.length co17] 24 (0, 0)) (by (with_reducible repeat (first | refine kN ?_ _ | refine kD ?_ | refine kA ?_ _)); exact BK397.out)) : gb417 ≠ gb397)); have n14_ := As.mk ((by rw [hg]; exact Nat.ne_of_lt (blk_lt (g := gb410) (o := .cells #[.string t404, .string t405, .slice Ao24 t406.length co24] 24 (0, 0)) (by (with_reducible repeat (first | refine kN ?_ _ | refine kD ?_ | refine kA ?_ _)); exact BK410.out)) : gb410 ≠ gb417)); have n15_ := As.mk ((by rw [hg]; exact Nat.ne_of_gt (blk_lt (g := gb410) (o := .cells #[.string t404, .string t405, .slice Ao24 t406.length co24] 24 (0, 0)) (by (with_reducible repeat (first | refine kN ?_ _ | refine kD ?_ | refine kA ?_ _)); exact BK410.out)) : gb417 ≠ gb410)); clear HO403; clear HO408; clear HO415; clear BK395; clear BK397; clear BK410; clear HB; have HO403 := n0_; have HO408 := n1_; have HO415 := n2_; have BK395 := n3_; have BK397 := n4_; have BK410 := n5_; have HB := n6_; have BK417 := n7_; have GW417 := n8_; have GE417 := n9_; have NB395_417 := n10_; have NB417_395 := n11_; have NB397_417 := n12_; have NB417_397 := n13_; have NB410_417 := n14_; have NB417_410 := n15_; clear n0_ n1_ n2_ n3_ n4_ n5_ n6_ n7_ n8_ n9_ n10_ n11_ n12_ n13_ n14_ n15_; clear hb hbox hg; have hnb28 := NB417_395.out; have hnc28 := NB395_417.out; have hnb29 := NB417_397.out; have hnc29 := NB397_417.out; have hnb30 := NB417_410.out; have hnc30 := NB410_417.out; have hcz31_0 : w27.cell? ⟨gb417, 0, none⟩ = some (.string (⟨#[]⟩ : ByteArray)) := (kC BK417.out 0).trans rfl; have hcz31_1 : w27.cell? ⟨gb417, 1, none⟩ = some (.string (⟨#[]⟩ : ByteArray)) := (kC BK417.out 1).trans rfl; have hcz31_2 : w27.cell? ⟨gb417, 2, none⟩ = some (.slice none 0 0) := (kC BK417.out 2).trans rfl; have hfz31_0 := kF BK417.out 0; have hfz31_1 := kF BK417.out 1; have hfz31_2 := kF BK417.out 2; obtain ⟨Ao32, co32, eo32⟩ := Kd.R_slice HO415.out; subst eo32; have hcz33_0 : w27.cell? ⟨gb410, 0, none⟩ = some (.string t404) := (kC BK410.out 0).trans rfl; have hcz33_1 : w27.cell? ⟨gb410, 1, none⟩ = some (.string t405) := (kC BK410.out 1).trans rfl; have hcz33_2 : w27.cell? ⟨gb410, 2, none⟩ = some (.slice Ao24 t406.length co24) := (kC BK410.out 2).trans rfl; have hfz33_0 := kF BK410.out 0; have hfz33_1 := kF BK410.out 1; have hfz33_2 := kF BK410.out 2) | ((with_reducible refine gate_callee (f := 13) rfl ?_); refine goesL_ (some 31) rfl rfl Tryz.func13 (by kernel_rfl) rfl #[.agg #[.string t404, .string t405, .slice Ao24 t406.length co24], .agg #[.string t411, .string t412, .slice Ao32 t413.length co32]] rfl (by (try simp only [List.map_toArray, List.map_cons, List.map_nil]); first | done | rfl | (simp only [List.length_drop, List.length_take]; rfl)) ?_; (with_reducible refine (majordomoref06_Same.calls k t404 t405 _ _ t406 t411 t412 _ _ t413 t418 _ ?side1 ?side2 ?side3 ?side4 A6.out).mono ?_); (case side1 => refine (Kd.R_reads' (e := 31) (base := w.heap.size) (ok := fun k_ => ((True ∧ some k_ ≠ (.slice Ao17 y401.length co17 : Value).ownBlock) ∧ some k_ ≠ (.slice Ao32 t413.length co32 : Value).ownBlock)) (n := t406.length) (c := co24) ?_).2.2; exact (by (with_reducible repeat (first | apply Kd.R_alloc | apply Kd.R_drewN | apply Kd.R_drew)); exact (Kd.R_mono (Kd.R_far (p := ⟨gb417, 2, none⟩) (Kd.R_far (p := ⟨gb417, 1, none⟩) (Kd.R_far (p := ⟨gb417, 0, none⟩) (Kd.R_types HO408.out BK417.out (by decide)) (fun _ hk => hk.2) (.string t411)) (fun _ hk => hk.2) (.string t412)) (fun _ hk => hk.2) (.slice Ao32 t413.length co32)) (fun _ h_ => h_.1)))); (case side2 => exact (Kd.R_reads' HO408.out).2.1); (case side3 => refine (Kd.R_reads' (e := 31) (base := w.heap.size) (ok := fun k_ => ((True ∧ some k_ ≠ (.slice Ao17 y401.length co17 : Value).ownBlock) ∧ some k_ ≠ (.slice Ao24 t406.length co24 : Value).ownBlock)) (n := t413.length) (c := co32) ?_).2.2; exact (by (with_reducible repeat (first | apply Kd.R_alloc | apply Kd.R_drewN | apply Kd.R_drew)); exact (Kd.R_mono (Kd.R_far (p := ⟨gb417, 2, none⟩) (Kd.R_far (p := ⟨gb417, 1, none⟩) (Kd.R_far (p := ⟨gb417, 0, none⟩) (Kd.R_types HO415.out BK417.out (by decide)) (fun _ hk => hk.2) (.string t411)) (fun _ hk => hk.2) (.string t412)) (fun _ hk => hk.2) (.slice Ao32 t413.length co32)) (fun _ h_ => h_.1)))); (case side4 => exact (Kd.R_reads' HO415.out).2.1); rintro e w34 ⟨rfl, hb⟩; refine ⟨_, rfl, ?_⟩; have n0_ := As.mk (Kd.R_below (by (with_reducible repeat (first | apply Kd.R_alloc | apply Kd.R_drewN | apply Kd.R_drew)); exact (Kd.R_mono (Kd.R_far (p := ⟨gb417, 2, none⟩) (Kd.R_far (p := ⟨gb417, 1, none⟩) (Kd.R_far (p := ⟨gb417, 0, none⟩) (Kd.R_types HO403.out BK417.out (by decide)) (fun _ hk => hk.2) (.string t411)) (fun _ hk => hk.2) (.string t412)) (fun _ hk => hk.2) (.slice Ao32 t413.length co32)) (fun _ h_ => h_.1))) hb); have n1_ := As.mk (Kd.R_below (by (with_reducible repeat (first | apply Kd.R_alloc | apply Kd.R_drewN | apply Kd.R_drew)); exact (Kd.R_mono (Kd.R_far (p := ⟨gb417, 2, none⟩) (Kd.R_far (p := ⟨gb417, 1, none⟩) (Kd.R_far (p := ⟨gb417, 0, none⟩) (Kd.R_types HO408.out BK417.out (by decide)) (fun _ hk => hk.2) (.string t411)) (fun _ hk => hk.2) (.string t412)) (fun _ hk => hk.2) (.slice Ao32 t413.length co32)) (fun _ h_ => h_.1))) hb); have n2_ := As.mk (Kd.R_below (by (with_reducible repeat (first | apply Kd.R_alloc | apply Kd.R_drewN | apply Kd.R_drew)); exact (Kd.R_mono (Kd.R_far (p := ⟨gb417, 2, none⟩) (Kd.R_far (p := ⟨gb417, 1, none⟩) (Kd.R_far (p := ⟨gb417, 0, none⟩) (Kd.R_types HO415.out BK417.out (by decide)) (fun _ hk => hk.2) (.string t411)) (fun _ hk => hk.2) (.string t412)) (fun _ hk => hk.2) (.slice Ao32 t413.length co32)) (fun _ h_ => h_.1))) hb); have n3_ := As.mk (kB (g := gb395) (o := .cells #[.string a0_0, .string a0_1, .slice A0_2 l0_2.length c0_2] 24 (0, 0)) (by (with_reducible repeat (first | refine kN ?_ _ | refine kD ?_ | refine kA ?_ _)); refine kR ?_ NB395_417.out _; (with_reducible repeat (first | refine kN ?_ _ | refine kD ?_ | refine kA ?_ _)); refine kR ?_ NB395_417.out _; (with_reducible repeat (first | refine kN ?_ _ | refine kD ?_ | refine kA ?_ _)); refine kR ?_ NB395_417.out _; (with_reducible repeat (first | refine kN ?_ _ | refine kD ?_ | refine kA ?_ _)); exact BK395.out) hb); have n4_ := As.mk (kB (g := gb397) (o := .cells #[.string a0_0, .string a0_1, .slice Ao17 y401.length co17] 24 (0, 0)) (by (with_reducible repeat (first | refine kN ?_ _ | refine kD ?_ | refine kA ?_ _)); refine kR ?_ NB397_417.out _; (with_reducible repeat (first | refine kN ?_ _ | refine kD ?_ | refine kA ?_ _)); refine kR ?_ NB397_417.out _; (with_reducible repeat (first | refine kN ?_ _ | refine kD ?_ | refine kA ?_ _)); refine kR ?_ NB397_417.out _; (with_reducible repeat (first | refine kN ?_ _ | refine kD ?_ | refine kA ?_ _)); exact BK397.out) hb); have n5_ := As.mk (kB (g := gb410) (o := .cells #[.string t404, .string t405, .slice Ao24 t406.length co24] 24 (0, 0)) (by (with_reducible repeat (first | refine kN ?_ _ | refine kD ?_ | refine kA ?_ _)); refine kR ?_ NB410_417.out _; (with_reducible repeat (first | refine kN ?_ _ | refine kD ?_ | refine kA ?_ _)); refine kR ?_ NB410_417.out _; (with_reducible repeat (first | refine kN ?_ _ | refine kD ?_ | refine kA ?_ _)); refine kR ?_ NB410_417.out _; (with_reducible repeat (first | refine kN ?_ _ | refine kD ?_ | refine kA ?_ _)); exact BK410.out) hb); have n6_ := As.mk (kB (g := gb417) (o := .cells #[.string t411, .string t412, .slice Ao32 t413.length co32] 24 (0, 0)) (by (with_reducible repeat (first | refine kN ?_ _ | refine kD ?_ | refine kA ?_ _)); refine kP (cs := #[.string t411, .string t412, .slice none 0 0]) ?_ 2 _ rfl; (with_reducible repeat (first | refine kN ?_ _ | refine kD ?_ | refine kA ?_ _)); refine kP (cs := #[.string t411, .string (⟨#[]⟩ : ByteArray), .slice none 0 0]) ?_ 1 _ rfl; (with_reducible repeat (first | refine kN ?_ _ | refine kD ?_ | refine kA ?_ _)); refine kP (cs := #[.string (⟨#[]⟩ : ByteArray), .string (⟨#[]⟩ : ByteArray), .slice none 0 0]) ?_ 0 _ rfl; (with_reducible repeat (first | refine kN ?_ _ | refine kD ?_ | refine kA ?_ _)); exact BK417.out) hb); have n7_ := As.mk (bT (by repeat (first | (with_reducible first | exact HB.out | apply bA | apply bN | apply bD | refine bS ?_ GE395.out | refine bS ?_ GE397.out | refine bS ?_ GE410.out | refine bS ?_ GE417.out) | exact HB.out)) hb); clear HO403; clear HO408; clear HO415; clear BK395; clear BK397; clear BK410; clear BK417; clear HB; have HO403 := n0_; have HO408 := n1_; have HO415 := n2_; have BK395 := n3_; have BK397 := n4_; have BK410 := n5_; have BK417 := n6_; have HB := n7_; clear n0_ n1_ n2_ n3_ n4_ n5_ n6_ n7_; (try clear hb); (try clear hb2); (try clear hk); (try clear hi)))
 go_loopg [10] k (fun kq v10 w' => ∃ (x10_1 : Int) (x398002_1 : List (S31)) (x411002_1 : List (S31)) (x418002_1 : List (S31)) (u398002 : Value) (u411002 : Value) (u418002 : Value), v10 = .int .i64 x10_1 ∧ As (majordomolaw06_ResourceChecks.l0 kq t396 t409 t416 t418 x10_1 a0_0 a0_1 l0_2 a0_0 a0_1 x398002_1 t404 t405 x411002_1 = some r) ∧ As (kq ≤ k) ∧ As (Kd.R k31 31 w' w.heap.size (fun k_ => some k_ ≠ (u411002 : Value).ownBlock ∧ some k_ ≠ (u418002 : Value).ownBlock) u398002 x398002_1) ∧ As (Kd.R k31 31 w' w.heap.size (fun k_ => some k_ ≠ (u398002 : Value).ownBlock ∧ some k_ ≠ (u418002 : Value).ownBlock) u411002 x411002_1) ∧ As (Kd.R k31 31 w' w.heap.size (fun k_ => some k_ ≠ (u398002 : Value).ownBlock ∧ some k_ ≠ (u411002 : Value).ownBlock) u418002 x418002_1) ∧ As (w'.heap[gb395]? = some (.cells #[.string a0_0, .string a0_1, (.slice A0_2 l0_2.length c0_2)] 24 (0, 0))) ∧ As (w'.heap[gb397]? = some (.cells #[.string a0_0, .string a0_1, u398002] 24 (0, 0))) ∧ As (w'.heap[gb410]? = some (.cells #[.string t404, .string t405, u411002] 24 (0, 0))) ∧ As (w'.heap[gb417]? = some (.cells #[.string t411, .string t412, u418002] 24 (0, 0))) ∧ As (Below w.heap.size w w'))
 case atStart => exact ⟨(0), (y401), (t406), (t413), (.slice Ao17 y401.length co17), (.slice Ao24 t406.length co24), (.slice Ao32 t413.length co32), (by first | rfl | (simp; done) | (simp [*]; done)), H', ⟨Nat.le_refl _⟩, ⟨by (with_reducible repeat (first | apply Kd.R_alloc | apply Kd.R_drewN | apply Kd.R_drew)); exact Kd.R_mono HO403.out (fun _ hk => ⟨hk.1.2, hk.2⟩)⟩, ⟨by (with_reducible repeat (first | apply Kd.R_alloc | apply Kd.R_drewN | apply Kd.R_drew)); exact Kd.R_mono HO408.out (fun _ hk => ⟨hk.1.2, hk.2⟩)⟩, ⟨by (with_reducible repeat (first | apply Kd.R_alloc | apply Kd.R_drewN | apply Kd.R_drew)); exact Kd.R_mono HO415.out (fun _ hk => ⟨hk.1.2, hk.2⟩)⟩, ⟨by (with_reducible repeat (first | refine kN ?_ _ | refine kD ?_ | refine kA ?_ _)); exact BK395.out⟩, ⟨by (with_reducible repeat (first | refine kN ?_ _ | refine kD ?_ | refine kA ?_ _)); exact BK397.out⟩, ⟨by (with_reducible repeat (first | refine kN ?_ _ | refine kD ?_ | refine kA ?_ _)); exact BK410.out⟩, ⟨by (with_reducible repeat (first | refine kN ?_ _ | refine kD ?_ | refine kA ?_ _)); exact BK417.out⟩, ⟨by repeat (first | (with_reducible first | exact HB.out | apply bA | apply bN | apply bD | refine bS ?_ GE395.out | refine bS ?_ GE397.out | refine bS ?_ GE410.out | refine bS ?_ GE417.out) | exact HB.out)⟩⟩
 case round =>
  clear H'
  try clear c1
  try clear c2
  try clear p2
  try clear c3
  try clear c10
  try clear c11
  try clear c12
  try clear c13
  try clear c21
  try clear c22
  try clear c28
  try clear c29
  try clear c30
  try clear hcz12_0
  try clear hcz12_1
  try clear hcz12_2
  try clear hcz15_0
  try clear hcz15_1
  try clear hcz15_2
  try clear hcz18_0
  try clear hcz18_1
  try clear hcz18_2
  try clear hcz23_0
  try clear hcz23_1
  try clear hcz23_2
  try clear hcz25_0
  try clear hcz25_1
  try clear hcz25_2
  try clear hcz31_0
  try clear hcz31_1
  try clear hcz31_2
  try clear hcz33_0
  try clear hcz33_1
  try clear hcz33_2
  try clear hcz9_0
  try clear hcz9_1
  try clear hcz9_2
  try clear hfz12_0
  try clear hfz12_1
  try clear hfz12_2
  try clear hfz15_0
  try clear hfz15_1
  try clear hfz15_2
  try clear hfz18_0
  try clear hfz18_1
  try clear hfz18_2
  try clear hfz23_0
  try clear hfz23_1
  try clear hfz23_2
  try clear hfz25_0
  try clear hfz25_1
  try clear hfz25_2
  try clear hfz31_0
  try clear hfz31_1
  try clear hfz31_2
  try clear hfz33_0
  try clear hfz33_1
  try clear hfz33_2
  try clear hfz9_0
  try clear hfz9_1
  try clear hfz9_2
  obtain ⟨x10_1, x398002_1, x411002_1, x418002_1, u398002, u411002, u418002, rfl, HA, HK1, HO_398002, HO_411002, HO_418002, BK395, BK397, BK410, BK417, HB⟩ := hrel
  cases gk with
  | zero => exact absurd HA.out (by simp [majordomolaw06_ResourceChecks.l0])
  | succ k1 =>
   have H := HA.out
   clear HA
   simp only [majordomolaw06_ResourceChecks.l0] at H
   by_cases c35 : x10_1 < (x411002_1.length : Int)
   · rw [if_pos c35] at H
     have c35b0 : decide (x10_1 < (x411002_1.length : Int)) = true := decide_eq_true c35
     clear c35
     by_cases c36 : 0 ≤ x10_1
     rotate_left
     · rw [if_neg c36] at H
       exact absurd H (by simp)
     rw [if_pos c36] at H
     have c36b0 : decide (0 ≤ x10_1) = true := decide_eq_true c36
     clear c36
     obtain ⟨y419, hy419⟩ : ∃ y_ : List (S31), y_ = (x411002_1.set (x10_1 : Int).toNat (⟨(rd_T31 x411002_1 x10_1).f0, (⟨#[115, 112, 111, 105, 108, 116]⟩ : ByteArray)⟩ : S31)) := ⟨_, rfl⟩
     replace H : (majordomolaw06_ResourceChecks.l0 k1 t396 t409 t416 t418 (wrap64 (x10_1 + 1)) a0_0 a0_1 l0_2 a0_0 a0_1 x398002_1 t404 t405 y419) = some r := by first | (rw [hy419]; with_reducible exact H) | (have H2_ := (Option.bind_some _ _).symm.trans H; rw [hy419]; with_reducible exact H2_) | (have H2_ := (Option.bind_some _ _).symm.trans H; with_reducible exact H2_) | with_reducible exact H | (rw [hy419]; exact H) | exact H
     have Ny419 := As.mk hy419
     clear hy419
     have H' := As.mk H
     clear H
     have hnb38 := NB410_395.out
     have hnc38 := NB395_410.out
     have hnb39 := NB410_397.out
     have hnc39 := NB397_410.out
     have hnb40 := NB410_417.out
     have hnc40 := NB417_410.out
     have hcz41_0 : wr.cell? ⟨gb410, 0, none⟩ = some (.string t404) := (kC BK410.out 0).trans rfl
     have hcz41_1 : wr.cell? ⟨gb410, 1, none⟩ = some (.string t405) := (kC BK410.out 1).trans rfl
     have hcz41_2 : wr.cell? ⟨gb410, 2, none⟩ = some (u411002) := (kC BK410.out 2).trans rfl
     have hfz41_0 := kF BK410.out 0
     have hfz41_1 := kF BK410.out 1
     have hfz41_2 := kF BK410.out 2
     obtain ⟨Ao42, co42, eo42⟩ := Kd.R_slice HO_411002.out
     subst eo42
     have p37 : 0 ≤ (x10_1 : Int) := of_decide_eq_true (by first | (with_reducible assumption) | assumption)
     have q37 : (x10_1 : Int) < ((x411002_1.length : Int) : Int) := of_decide_eq_true (by first | (with_reducible assumption) | assumption)
     obtain ⟨go37, co37, eo37, gb37, gl37, cl37, HG37⟩ := Kd.R_form HO_411002.out (by omega)
     (first | cases eo37 | (injection eo37 with ea_ en_ ec_; (first | subst ea_ | (injection ea_ with ea_; subst ea_)); subst ec_; clear en_))
     have GB37 := As.mk gb37
     have GG37 := As.mk HG37
     clear gb37 gl37 HG37
     obtain ⟨ce37, hcl37, hM37, hcc37, hfr37⟩ := Kd.R_elem HO_411002.out z31 (x10_1 : Int) p37 q37
     obtain rfl := k31_openM hM37
     have hx37_0 : wr.cell? ⟨go37, (x10_1 : Int).toNat * 2, none⟩ = some (.string ((rd_T31 x411002_1 x10_1).f0)) := hcc37 0 _ rfl
     have hx37_1 : wr.cell? ⟨go37, (x10_1 : Int).toNat * 2 + 1, none⟩ = some (.string ((rd_T31 x411002_1 x10_1).f1)) := hcc37 1 _ rfl
     have hf37_0 : wr.frozen? ⟨go37, (x10_1 : Int).toNat * 2, none⟩ = false := hfr37 0
     have hf37_1 : wr.frozen? ⟨go37, (x10_1 : Int).toNat * 2 + 1, none⟩ = false := hfr37 1
     clear hcl37 hcc37 hfr37 hM37
     replace p37 := eq_true p37
     replace q37 := eq_true q37
     have HX43 := As.mk (show Kd.R k31 31 wr w.heap.size (fun k_ => some k_ ≠ (u398002 : Value).ownBlock ∧ some k_ ≠ (u418002 : Value).ownBlock) (.slice (some ⟨go37, 0, none⟩) x411002_1.length co42) x411002_1 from (by (with_reducible repeat (first | apply Kd.R_alloc | apply Kd.R_drewN | apply Kd.R_drew)); exact HO_411002.out))
     obtain ⟨ce43, hcl43, hM43, hcc43, hfr43⟩ := Kd.R_elem HX43.out z31 (x10_1 : Int) (of_decide_eq_true (by first | (with_reducible assumption) | assumption)) (by have h_ : (x10_1 : Int) < ((x411002_1.length : Int) : Int) := of_decide_eq_true (by first | (with_reducible assumption) | assumption); first | exact h_ | (have e_ := (Kd.R_reads' HO_411002.out).1; omega) | simpa using h_)
     obtain rfl := k31_openM hM43
     have HP43 := Kd.R_seg HX43.out (x10_1 : Int) (of_decide_eq_true (by first | (with_reducible assumption) | assumption)) (by have h_ : (x10_1 : Int) < ((x411002_1.length : Int) : Int) := of_decide_eq_true (by first | (with_reducible assumption) | assumption); first | exact h_ | (have e_ := (Kd.R_reads' HO_411002.out).1; omega) | simpa using h_) (seg := [.string (⟨#[115, 112, 111, 105, 108, 116]⟩ : ByteArray)]) (j := 1) hcl43 hcc43 (show 2 ≤ 2 from by decide) (x' := (⟨(rd_T31 x411002_1 x10_1).f0, (⟨#[115, 112, 111, 105, 108, 116]⟩ : ByteArray)⟩ : S31)) (k31_mkM _ _ _ (⟨(rd_T31 x411002_1 x10_1).f0, (⟨#[115, 112, 111, 105, 108, 116]⟩ : ByteArray)⟩ : S31) ) (fun _ hk => hk)
     have hx43_1 := hcc43 1 _ rfl
     (try simp only [show (k31).sz = 2 from rfl, Nat.mul_one, Nat.add_zero] at hx43_1)
     have hf43_1 := hfr43 1
     (try simp only [show (k31).sz = 2 from rfl, Nat.mul_one, Nat.add_zero] at hf43_1)
     clear hcl43 hcc43 hfr43 hM43
     go_wp2_with (first | ((with_reducible refine gate_store (t := 9) (p := 43) rfl ?_); refine store_event (t := 9) (p := 43) (v := ?vo_w44) (w1 := (wr.setCell ⟨go37, (x10_1 : Int).toNat * 2 + 1, none⟩ (.string (⟨#[115, 112, 111, 105, 108, 116]⟩ : ByteArray)))) ?hg ?ho ?hn ?hr ?_; (case ho => rfl); (case hg => rfl); (case hn => rfl); (case hr => first | (go_simp; done) | (go_simp; rfl)); intro w44 hw; have hg : wr.grownBy w44 (some go37) := (by rw [hw]; exact HP43.2); have hp_ : Kd.R k31 31 w44 w.heap.size (fun k_ => some k_ ≠ (u398002 : Value).ownBlock ∧ some k_ ≠ (u418002 : Value).ownBlock) (.slice (some ⟨go37, 0, none⟩) x411002_1.length co42) y419 := (by rw [hw, Ny419.out]; exact HP43.1); clear HP43; have n0_ := As.mk (Kd.R_after (v := (.slice (some ⟨go37, 0, none⟩) x411002_1.length co42)) (v1 := (.slice (some ⟨go37, 0, none⟩) x411002_1.length co42)) (ok := (fun k_ => some k_ ≠ (u418002 : Value).ownBlock)) (by (with_reducible repeat (first | apply Kd.R_alloc | apply Kd.R_drewN | apply Kd.R_drew)); exact Kd.R_mono HO_398002.out (fun _ hk => ⟨hk.2, hk.1⟩)) hg (.inl rfl)); have n1_ := As.mk (hp_); have n2_ := As.mk (Kd.R_after (v := (.slice (some ⟨go37, 0, none⟩) x411002_1.length co42)) (v1 := (.slice (some ⟨go37, 0, none⟩) x411002_1.length co42)) (ok := (fun k_ => some k_ ≠ (u398002 : Value).ownBlock)) (by (with_reducible repeat (first | apply Kd.R_alloc | apply Kd.R_drewN | apply Kd.R_drew)); exact HO_418002.out) hg (.inl rfl)); have n3_ := As.mk (blk_grown (g := gb395) (o := .cells #[.string a0_0, .string a0_1, .slice A0_2 l0_2.length c0_2] 24 (0, 0)) (by (with_reducible repeat (first | refine kN ?_ _ | refine kD ?_ | refine kA ?_ _)); exact BK395.out) hg (Kd.R_ne HO_411002.out BK395.out (by decide))); have n4_ := As.mk (blk_grown (g := gb397) (o := .cells #[.string a0_0, .string a0_1, u398002] 24 (0, 0)) (by (with_reducible repeat (first | refine kN ?_ _ | refine kD ?_ | refine kA ?_ _)); exact BK397.out) hg (Kd.R_ne HO_411002.out BK397.out (by decide))); have n5_ := As.mk (blk_grown (g := gb410) (o := .cells #[.string t404, .string t405, .slice (some ⟨go37, 0, none⟩) x411002_1.length co42] 24 (0, 0)) (by (with_reducible repeat (first | refine kN ?_ _ | refine kD ?_ | refine kA ?_ _)); exact BK410.out) hg (Kd.R_ne HO_411002.out BK410.out (by decide))); have n6_ := As.mk (blk_grown (g := gb417) (o := .cells #[.string t411, .string t412, u418002] 24 (0, 0)) (by (with_reducible repeat (first | refine kN ?_ _ | refine kD ?_ | refine kA ?_ _)); exact BK417.out) hg (Kd.R_ne HO_411002.out BK417.out (by decide))); have n7_ := As.mk ((by rw [hw]; exact bS (HB.out) GB37.out : Below w.heap.size w w44)); clear HO_398002; clear HO_411002; clear HO_418002; clear BK395; clear BK397; clear BK410; clear BK417; clear HB; have HO_398002 := n0_; have HO_411002 := n1_; have HO_418002 := n2_; have BK395 := n3_; have BK397 := n4_; have BK410 := n5_; have BK417 := n6_; have HB := n7_; clear n0_ n1_ n2_ n3_ n4_ n5_ n6_ n7_; clear hg hw hp_))
     go_roundg k1
     case measure => have := HK1.out; omega
     case rel => exact ⟨(wrap64 (x10_1 + 1)), (x398002_1), (y419), (x418002_1), (u398002), (.slice (some ⟨go37, 0, none⟩) x411002_1.length co42), (u418002), (by first | rfl | (simp; done) | (simp [*]; done)), H', ⟨by have := HK1.out; omega⟩, ⟨by (with_reducible repeat (first | apply Kd.R_alloc | apply Kd.R_drewN | apply Kd.R_drew)); exact Kd.R_mono HO_398002.out (fun _ hk => ⟨hk.2, hk.1⟩)⟩, ⟨by (with_reducible repeat (first | apply Kd.R_alloc | apply Kd.R_drewN | apply Kd.R_drew)); exact HO_411002.out⟩, ⟨by (with_reducible repeat (first | apply Kd.R_alloc | apply Kd.R_drewN | apply Kd.R_drew)); exact HO_418002.out⟩, ⟨by (with_reducible repeat (first | refine kN ?_ _ | refine kD ?_ | refine kA ?_ _)); exact BK395.out⟩, ⟨by (with_reducible repeat (first | refine kN ?_ _ | refine kD ?_ | refine kA ?_ _)); exact BK397.out⟩, ⟨by (with_reducible repeat (first | refine kN ?_ _ | refine kD ?_ | refine kA ?_ _)); exact BK410.out⟩, ⟨by (with_reducible repeat (first | refine kN ?_ _ | refine kD ?_ | refine kA ?_ _)); exact BK417.out⟩, ⟨by repeat (first | (with_reducible first | exact HB.out | apply bA | apply bN | apply bD | refine bS ?_ GE395.out | refine bS ?_ GE397.out | refine bS ?_ GE410.out | refine bS ?_ GE417.out) | exact HB.out)⟩⟩
   rw [if_neg c35] at H
   have c35b0 : decide (x10_1 < (x411002_1.length : Int)) = false := decide_eq_false c35
   clear c35
   replace H := Option.bind_eq_some_iff.mp H
   obtain ⟨t420, A450, H⟩ := H
   replace H : (if t396 = true then (if t418 = true then (if t409 = t416 then (if t420 = true then ((resource_Check.f a0_0 a0_1 x398002_1).bind fun t421 => ((majordomoref06_Check.f k1 a0_0 a0_1 l0_2).bind fun t422 => (some (t421 == t422)))) else (some false)) else (some false)) else (some false)) else (some false)) = some r := H
   have A45 := As.mk A450
   clear A450
   by_cases c46 : t396 = true
   rotate_left
   · rw [if_neg c46] at H
     exact absurd ((Option.some.inj H).trans HRR.out) (by decide)
   subst c46
   have H1 : (if t418 = true then (if t409 = t416 then (if t420 = true then ((resource_Check.f a0_0 a0_1 x398002_1).bind fun t421 => ((majordomoref06_Check.f k1 a0_0 a0_1 l0_2).bind fun t422 => (some (t421 == t422)))) else (some false)) else (some false)) else (some false)) = some r := by rw [if_pos rfl] at H; exact H
   clear H
   have H := H1
   clear H1
   by_cases c47 : t418 = true
   rotate_left
   · rw [if_neg c47] at H
     exact absurd ((Option.some.inj H).trans HRR.out) (by decide)
   subst c47
   have H1 : (if t409 = t416 then (if t420 = true then ((resource_Check.f a0_0 a0_1 x398002_1).bind fun t421 => ((majordomoref06_Check.f k1 a0_0 a0_1 l0_2).bind fun t422 => (some (t421 == t422)))) else (some false)) else (some false)) = some r := by rw [if_pos rfl] at H; exact H
   clear H
   have H := H1
   clear H1
   by_cases c48 : t409 = t416
   rotate_left
   · rw [if_neg c48] at H
     exact absurd ((Option.some.inj H).trans HRR.out) (by decide)
   rw [if_pos c48] at H
   have c48b0 : (t409 == t416) = true := beq_iff_eq.mpr c48
   have c48b1 : (t409 != t416) = false := bne_eq_false_iff_eq.mpr c48
   clear c48
   by_cases c49 : t420 = true
   rotate_left
   · rw [if_neg c49] at H
     exact absurd ((Option.some.inj H).trans HRR.out) (by decide)
   subst c49
   have H1 : ((resource_Check.f a0_0 a0_1 x398002_1).bind fun t421 => ((majordomoref06_Check.f k1 a0_0 a0_1 l0_2).bind fun t422 => (some (t421 == t422)))) = some r := by rw [if_pos rfl] at H; exact H
   clear H
   have H := H1
   clear H1
   replace H := Option.bind_eq_some_iff.mp H
   obtain ⟨t421, A500, H⟩ := H
   replace H : ((majordomoref06_Check.f k1 a0_0 a0_1 l0_2).bind fun t422 => (some (t421 == t422))) = some r := H
   have A50 := As.mk A500
   clear A500
   replace H := Option.bind_eq_some_iff.mp H
   obtain ⟨t422, A510, H⟩ := H
   replace H : (some (t421 == t422)) = some r := H
   have A51 := As.mk A510
   clear A510
   obtain rfl := Option.some.inj H
   have hnb52 := NB410_395.out
   have hnc52 := NB395_410.out
   have hnb53 := NB410_397.out
   have hnc53 := NB397_410.out
   have hnb54 := NB410_417.out
   have hnc54 := NB417_410.out
   have hcz55_0 : wr.cell? ⟨gb410, 0, none⟩ = some (.string t404) := (kC BK410.out 0).trans rfl
   have hcz55_1 : wr.cell? ⟨gb410, 1, none⟩ = some (.string t405) := (kC BK410.out 1).trans rfl
   have hcz55_2 : wr.cell? ⟨gb410, 2, none⟩ = some (u411002) := (kC BK410.out 2).trans rfl
   have hfz55_0 := kF BK410.out 0
   have hfz55_1 := kF BK410.out 1
   have hfz55_2 := kF BK410.out 2
   obtain ⟨Ao56, co56, eo56⟩ := Kd.R_slice HO_411002.out
   subst eo56
   have hnb57 := NB397_395.out
   have hnc57 := NB395_397.out
   have hnb58 := NB397_417.out
   have hnc58 := NB417_397.out
   have hcz59_0 : wr.cell? ⟨gb397, 0, none⟩ = some (.string a0_0) := (kC BK397.out 0).trans rfl
   have hcz59_1 : wr.cell? ⟨gb397, 1, none⟩ = some (.string a0_1) := (kC BK397.out 1).trans rfl
   have hcz59_2 : wr.cell? ⟨gb397, 2, none⟩ = some (u398002) := (kC BK397.out 2).trans rfl
   have hfz59_0 := kF BK397.out 0
   have hfz59_1 := kF BK397.out 1
   have hfz59_2 := kF BK397.out 2
   have hnb60 := NB395_417.out
   have hnc60 := NB417_395.out
   have hcz61_0 : wr.cell? ⟨gb395, 0, none⟩ = some (.string a0_0) := (kC BK395.out 0).trans rfl
   have hcz61_1 : wr.cell? ⟨gb395, 1, none⟩ = some (.string a0_1) := (kC BK395.out 1).trans rfl
   have hcz61_2 : wr.cell? ⟨gb395, 2, none⟩ = some (.slice A0_2 l0_2.length c0_2) := (kC BK395.out 2).trans rfl
   have hfz61_0 := kF BK395.out 0
   have hfz61_1 := kF BK395.out 1
   have hfz61_2 := kF BK395.out 2
   obtain ⟨Ao62, co62, eo62⟩ := Kd.R_slice HO_398002.out
   subst eo62
   try go_wp2_with (first | ((with_reducible refine gate_callee (f := 13) rfl ?_); refine goesL_ (some 46) rfl rfl Tryz.func13 (by kernel_rfl) rfl #[.agg #[.string a0_0, .string a0_1, .slice Ao62 x398002_1.length co62], .agg #[.string a0_0, .string a0_1, .slice A0_2 l0_2.length c0_2]] rfl (by (try simp only [List.map_toArray, List.map_cons, List.map_nil]); first | done | rfl | (simp only [List.length_drop, List.length_take]; rfl)) ?_; (with_reducible refine (majordomoref06_Same.calls k1 a0_0 a0_1 _ _ x398002_1 a0_0 a0_1 _ _ l0_2 true _ ?side1 ?side2 ?side3 ?side4 A45.out).mono ?_); (case side1 => repeat (first | exact (Kd.R_reads' HO_398002.out).2.2 | (with_reducible refine Kd.C_alloc ?_ _) | (with_reducible refine Kd.C_drewN ?_ _) | (with_reducible refine Kd.C_drew ?_))); (case side2 => exact (Kd.R_reads' HO_398002.out).2.1); (case side3 => repeat (first | exact (Kd.C_below HR0_2.out HB.out) | (with_reducible refine Kd.C_alloc ?_ _) | (with_reducible refine Kd.C_drewN ?_ _) | (with_reducible refine Kd.C_drew ?_))); (case side4 => exact HC0_2.out); rintro e w63 ⟨rfl, hb⟩; refine ⟨_, rfl, ?_⟩; have n0_ := As.mk (Kd.R_below (by (with_reducible repeat (first | apply Kd.R_alloc | apply Kd.R_drewN | apply Kd.R_drew)); exact HO_398002.out) hb); have n1_ := As.mk (Kd.R_below (by (with_reducible repeat (first | apply Kd.R_alloc | apply Kd.R_drewN | apply Kd.R_drew)); exact HO_411002.out) hb); have n2_ := As.mk (Kd.R_below (by (with_reducible repeat (first | apply Kd.R_alloc | apply Kd.R_drewN | apply Kd.R_drew)); exact HO_418002.out) hb); have n3_ := As.mk (kB (g := gb395) (o := .cells #[.string a0_0, .string a0_1, .slice A0_2 l0_2.length c0_2] 24 (0, 0)) (by (with_reducible repeat (first | refine kN ?_ _ | refine kD ?_ | refine kA ?_ _)); exact BK395.out) hb); have n4_ := As.mk (kB (g := gb397) (o := .cells #[.string a0_0, .string a0_1, .slice Ao62 x398002_1.length co62] 24 (0, 0)) (by (with_reducible repeat (first | refine kN ?_ _ | refine kD ?_ | refine kA ?_ _)); exact BK397.out) hb); have n5_ := As.mk (kB (g := gb410) (o := .cells #[.string t404, .string t405, .slice Ao56 x411002_1.length co56] 24 (0, 0)) (by (with_reducible repeat (first | refine kN ?_ _ | refine kD ?_ | refine kA ?_ _)); exact BK410.out) hb); have n6_ := As.mk (kB (g := gb417) (o := .cells #[.string t411, .string t412, u418002] 24 (0, 0)) (by (with_reducible repeat (first | refine kN ?_ _ | refine kD ?_ | refine kA ?_ _)); exact BK417.out) hb); have n7_ := As.mk (bT (by repeat (first | (with_reducible first | exact HB.out | apply bA | apply bN | apply bD | refine bS ?_ GE395.out | refine bS ?_ GE397.out | refine bS ?_ GE410.out | refine bS ?_ GE417.out) | exact HB.out)) hb); clear HO_398002; clear HO_411002; clear HO_418002; clear BK395; clear BK397; clear BK410; clear BK417; clear HB; have HO_398002 := n0_; have HO_411002 := n1_; have HO_418002 := n2_; have BK395 := n3_; have BK397 := n4_; have BK410 := n5_; have BK417 := n6_; have HB := n7_; clear n0_ n1_ n2_ n3_ n4_ n5_ n6_ n7_; (try clear hb); (try clear hb2); (try clear hk); (try clear hi)))
   have n0_ := As.mk (Kd.R_drew HO_398002.out)
   have n1_ := As.mk (Kd.R_drew HO_411002.out)
   have n2_ := As.mk (Kd.R_drew HO_418002.out)
   have n3_ := As.mk (kD BK395.out)
   have n4_ := As.mk (kD BK397.out)
   have n5_ := As.mk (kD BK410.out)
   have n6_ := As.mk (kD BK417.out)
   have n7_ := As.mk (bD HB.out)
   clear HO_398002
   clear HO_411002
   clear HO_418002
   clear BK395
   clear BK397
   clear BK410
   clear BK417
   clear HB
   have HO_398002 := n0_
   have HO_411002 := n1_
   have HO_418002 := n2_
   have BK395 := n3_
   have BK397 := n4_
   have BK410 := n5_
   have BK417 := n6_
   have HB := n7_
   clear n0_ n1_ n2_ n3_ n4_ n5_ n6_ n7_
   refine start_ (n := 20) (S := fun w' => w'.cell? ⟨gb397, 0, none⟩ = some (.string a0_0) ∧ w'.cell? ⟨gb397, 1, none⟩ = some (.string a0_1) ∧ w'.cell? ⟨gb397, 2, none⟩ = some (.slice Ao62 x398002_1.length co62) ∧ w'.cell? ⟨gb395, 0, none⟩ = some (.string a0_0) ∧ w'.cell? ⟨gb395, 1, none⟩ = some (.string a0_1) ∧ w'.cell? ⟨gb395, 2, none⟩ = some (.slice A0_2 l0_2.length c0_2)) (ds := []) #[false, false, false, false, false, false, false, false, false, false, false, false, false, false, false, false, false, false, false, false] (by kernel_rfl) rfl rfl ⟨(kC BK397.out 0).trans rfl, (kC BK397.out 1).trans rfl, (kC BK397.out 2).trans rfl, (kC BK395.out 0).trans rfl, (kC BK395.out 1).trans rfl, (kC BK395.out 2).trans rfl⟩ (fun hHeld => ?_); refine with_tabW majordomolaw06_ResourceChecks.tab12 majordomolaw06_ResourceChecks.bits12 (fun HT_ HW_ => ?_)
   generalize w63.drew = w64 at HO_398002 HO_411002 HO_418002 BK395 BK397 BK410 BK417 HB hHeld ⊢
   refine pure_ (i := 0) (N := some 47) (v := ?_) (a' := ?_) #[true, false, false, false, false, false, false, false, false, false, false, false, false, false, false, false, false, false, false, false] rfl rfl (any_of HT_.out (by kernel_rfl)) (fun _ _ _ h => h) (Or.inl ⟨by rfl, ?_⟩) ?_ ?_
   rotate_left
   · intro w'
     go_simp
     with_reducible rfl
   rotate_left
   · simp only [Act.put, zA, zZ, zS, i64_w, i32_w]
     rfl
   refine pure_ (i := 1) (N := some 48) (v := ?_) (a' := ?_) #[true, true, false, false, false, false, false, false, false, false, false, false, false, false, false, false, false, false, false, false] rfl rfl (any_of HT_.out (by kernel_rfl)) (fun _ _ _ h => h) (Or.inl ⟨by rfl, ?_⟩) ?_ ?_
   rotate_left
   · intro w'
     go_simp
     with_reducible rfl
   rotate_left
   · simp only [Act.put, zA, zZ, zS, i64_w, i32_w]
     rfl
   refine pure_ (i := 2) (N := some 49) (v := ?_) (a' := ?_) #[true, true, true, false, false, false, false, false, false, false, false, false, false, false, false, false, false, false, false, false] rfl rfl (any_of HT_.out (by kernel_rfl)) (fun _ _ _ h => h) (Or.inl ⟨by rfl, ?_⟩) ?_ ?_
   rotate_left
   · intro w'
     go_simp
     with_reducible rfl
   rotate_left
   · simp only [Act.put, zA, zZ, zS, i64_w, i32_w]
     rfl
   refine pure_ (i := 3) (N := some 50) (v := ?_) (a' := ?_) #[true, true, true, true, false, false, false, false, false, false, false, false, false, false, false, false, false, false, false, false] rfl rfl (any_of HT_.out (by kernel_rfl)) (fun _ _ _ h => h) (Or.inl ⟨by rfl, ?_⟩) ?_ ?_
   rotate_left
   · intro w'
     go_simp
     with_reducible rfl
   rotate_left
   · simp only [Act.put, zA, zZ, zS, i64_w, i32_w]
     rfl
   refine pure_ (i := 4) (N := some 51) (v := ?_) (a' := ?_) #[true, true, true, true, true, false, false, false, false, false, false, false, false, false, false, false, false, false, false, false] rfl rfl (any_of HT_.out (by kernel_rfl)) (fun _ _ _ h => h) (Or.inl ⟨by rfl, ?_⟩) ?_ ?_
   rotate_left
   · intro w'
     go_simp
     with_reducible rfl
   rotate_left
   · simp only [Act.put, zA, zZ, zS, i64_w, i32_w]
     rfl
   refine pure_ (i := 5) (N := some 52) (v := ?_) (a' := ?_) #[true, true, true, true, true, true, false, false, false, false, false, false, false, false, false, false, false, false, false, false] rfl rfl (any_of HT_.out (by kernel_rfl)) (fun _ _ _ h => h) (Or.inl ⟨by rfl, ?_⟩) ?_ ?_
   rotate_left
   · intro w'
     go_simp
     with_reducible rfl
   rotate_left
   · simp only [Act.put, zA, zZ, zS, i64_w, i32_w]
     rfl
   refine pure_ (i := 6) (N := some 53) (v := ?_) (a' := ?_) #[true, true, true, true, true, true, true, false, false, false, false, false, false, false, false, false, false, false, false, false] rfl rfl (any_of HT_.out (by kernel_rfl)) (fun _ _ _ h => h) (Or.inl ⟨by rfl, ?_⟩) ?_ ?_
   rotate_left
   · intro w'
     go_simp
     with_reducible rfl
   rotate_left
   · simp only [Act.put, zA, zZ, zS, i64_w, i32_w]
     rfl
   refine pure_ (i := 7) (N := some 54) (v := ?_) (a' := ?_) #[true, true, true, true, true, true, true, true, false, false, false, false, false, false, false, false, false, false, false, false] rfl rfl (any_of HT_.out (by kernel_rfl)) (fun _ _ _ h => h) (Or.inl ⟨by rfl, ?_⟩) ?_ ?_
   rotate_left
   · intro w'
     go_simp
     with_reducible rfl
   rotate_left
   · simp only [Act.put, zA, zZ, zS, i64_w, i32_w]
     rfl
   refine pure_ (i := 8) (N := some 55) (v := ?_) (a' := ?_) #[true, true, true, true, true, true, true, true, true, false, false, false, false, false, false, false, false, false, false, false] rfl rfl (any_of HT_.out (by kernel_rfl)) (fun _ _ _ h => h) (Or.inl ⟨by rfl, ?_⟩) ?_ ?_
   rotate_left
   · intro w'
     go_simp
     with_reducible rfl
   rotate_left
   · simp only [Act.put, zA, zZ, zS, i64_w, i32_w]
     rfl
   refine pure_ (i := 9) (N := some 56) (v := ?_) (a' := ?_) #[true, true, true, true, true, true, true, true, true, true, false, false, false, false, false, false, false, false, false, false] rfl rfl (any_of HT_.out (by kernel_rfl)) (fun _ _ _ h => h) (Or.inl ⟨by rfl, ?_⟩) ?_ ?_
   rotate_left
   · intro w'
     go_simp
     with_reducible rfl
   rotate_left
   · simp only [Act.put, zA, zZ, zS, i64_w, i32_w]
     rfl
   refine pure_ (i := 10) (N := some 57) (v := ?_) (a' := ?_) #[true, true, true, true, true, true, true, true, true, true, true, false, false, false, false, false, false, false, false, false] rfl rfl (any_of HT_.out (by kernel_rfl)) (fun _ _ _ h => h) (Or.inl ⟨by rfl, ?_⟩) ?_ ?_
   rotate_left
   · intro w'
     go_simp
     with_reducible rfl
   rotate_left
   · simp only [Act.put, zA, zZ, zS, i64_w, i32_w]
     rfl
   refine pure_ (i := 11) (N := some 58) (v := ?_) (a' := ?_) #[true, true, true, true, true, true, true, true, true, true, true, true, false, false, false, false, false, false, false, false] rfl rfl (any_of HT_.out (by kernel_rfl)) (fun _ _ _ h => h) (Or.inl ⟨by rfl, ?_⟩) ?_ ?_
   rotate_left
   · intro w'
     go_simp
     with_reducible rfl
   rotate_left
   · simp only [Act.put, zA, zZ, zS, i64_w, i32_w]
     rfl
   refine pure_ (i := 12) (N := some 59) (v := ?_) (a' := ?_) #[true, true, true, true, true, true, true, true, true, true, true, true, true, false, false, false, false, false, false, false] rfl rfl (any_of HT_.out (by kernel_rfl)) (fun _ _ _ h => h) (Or.inl ⟨by rfl, ?_⟩) ?_ ?_
   rotate_left
   · intro w'
     go_simp
     with_reducible rfl
   rotate_left
   · simp only [Act.put, zA, zZ, zS, i64_w, i32_w]
     rfl
   refine take_ (i := 13) (N := some 60) (v := ?_) (a' := ?_) #[true, true, true, true, true, true, true, true, true, true, true, true, true, true, false, false, false, false, false, false] rfl rfl (take_ofW HT_.out HW_.out (by kernel_rfl)) (fun _ _ _ h => h) (Or.inl ⟨by rfl, ?_⟩) hHeld ?_ ?_
   rotate_left
   · rintro w' ⟨s0, s1, s2, s3, s4, s5⟩
     go_simp
     with_reducible rfl
   rotate_left
   · simp only [Act.put, zA, zZ, zS, i64_w, i32_w]
     rfl
   refine take_ (i := 15) (N := some 62) (v := ?_) (a' := ?_) #[true, true, true, true, true, true, true, true, true, true, true, true, true, true, false, true, false, false, false, false] rfl rfl (take_ofW HT_.out HW_.out (by kernel_rfl)) (fun _ _ _ h => h) (Or.inl ⟨by rfl, ?_⟩) hHeld ?_ ?_
   rotate_left
   · rintro w' ⟨s0, s1, s2, s3, s4, s5⟩
     go_simp
     with_reducible rfl
   rotate_left
   · simp only [Act.put, zA, zZ, zS, i64_w, i32_w]
     rfl
   refine one_ (i := 14) (N := some 61) #[true, true, true, true, true, true, true, true, true, true, true, true, true, true, true, true, false, false, false, false] rfl rfl (one_of HT_.out (by kernel_rfl)) (by decide) (fun K hK => ?_)
   refine goes_ Tryz.func14 (by kernel_rfl) rfl #[.agg #[.string a0_0, .string a0_1, .slice Ao62 x398002_1.length co62]] (by rfl) rfl rfl (by (try simp only [List.map_toArray, List.map_cons, List.map_nil]); first | done | rfl | (simp only [List.length_drop, List.length_take]; rfl)) ?_
   with_reducible refine (resource_Check.calls a0_0 a0_1 _ _ x398002_1 t421 _ ?side1 ?side2 A50.out (UtfOk.of_below HU.out (by repeat (first | (with_reducible first | exact HB.out | apply bA | apply bN | apply bD | refine bS ?_ GE395.out | refine bS ?_ GE397.out | refine bS ?_ GE410.out | refine bS ?_ GE417.out) | exact HB.out)))).mono ?_
   (case side1 => repeat (first | exact (Kd.R_reads' HO_398002.out).2.2 | (with_reducible refine Kd.C_alloc ?_ _) | (with_reducible refine Kd.C_drewN ?_ _) | (with_reducible refine Kd.C_drew ?_)))
   (case side2 => exact (Kd.R_reads' HO_398002.out).2.1)
   rintro e w65 ⟨rfl, hb⟩
   refine ⟨_, rfl, ?_⟩
   have n0_ := As.mk (Kd.R_below (by (with_reducible repeat (first | apply Kd.R_alloc | apply Kd.R_drewN | apply Kd.R_drew)); exact HO_398002.out) hb)
   have n1_ := As.mk (Kd.R_below (by (with_reducible repeat (first | apply Kd.R_alloc | apply Kd.R_drewN | apply Kd.R_drew)); exact HO_411002.out) hb)
   have n2_ := As.mk (Kd.R_below (by (with_reducible repeat (first | apply Kd.R_alloc | apply Kd.R_drewN | apply Kd.R_drew)); exact HO_418002.out) hb)
   have n3_ := As.mk (kB (g := gb395) (o := .cells #[.string a0_0, .string a0_1, .slice A0_2 l0_2.length c0_2] 24 (0, 0)) (by (with_reducible repeat (first | refine kN ?_ _ | refine kD ?_ | refine kA ?_ _)); exact BK395.out) hb)
   have n4_ := As.mk (kB (g := gb397) (o := .cells #[.string a0_0, .string a0_1, .slice Ao62 x398002_1.length co62] 24 (0, 0)) (by (with_reducible repeat (first | refine kN ?_ _ | refine kD ?_ | refine kA ?_ _)); exact BK397.out) hb)
   have n5_ := As.mk (kB (g := gb410) (o := .cells #[.string t404, .string t405, .slice Ao56 x411002_1.length co56] 24 (0, 0)) (by (with_reducible repeat (first | refine kN ?_ _ | refine kD ?_ | refine kA ?_ _)); exact BK410.out) hb)
   have n6_ := As.mk (kB (g := gb417) (o := .cells #[.string t411, .string t412, u418002] 24 (0, 0)) (by (with_reducible repeat (first | refine kN ?_ _ | refine kD ?_ | refine kA ?_ _)); exact BK417.out) hb)
   have n7_ := As.mk (bT (by repeat (first | (with_reducible first | exact HB.out | apply bA | apply bN | apply bD | refine bS ?_ GE395.out | refine bS ?_ GE397.out | refine bS ?_ GE410.out | refine bS ?_ GE417.out) | exact HB.out)) hb)
   clear HO_398002
   clear HO_411002
   clear HO_418002
   clear BK395
   clear BK397
   clear BK410
   clear BK417
   clear HB
   have HO_398002 := n0_
   have HO_411002 := n1_
   have HO_418002 := n2_
   have BK395 := n3_
   have BK397 := n4_
   have BK410 := n5_
   have BK417 := n6_
   have HB := n7_
   clear n0_ n1_ n2_ n3_ n4_ n5_ n6_ n7_
   (try clear hb)
   (try clear hb2)
   (try clear hk)
   (try clear hi)
   refine hK.out _ _ ⟨(kC BK397.out 0).trans rfl, (kC BK397.out 1).trans rfl, (kC BK397.out 2).trans rfl, (kC BK395.out 0).trans rfl, (kC BK395.out 1).trans rfl, (kC BK395.out 2).trans rfl⟩ (fun hHeld => ?_)
   clear hK K
   refine norm_ (a' := ?_) ?_ ?_
   rotate_left
   · show Act.put _ (some 61) _ = _
     simp only [Act.put, zA, zZ, zS, i64_w, i32_w]
     rfl
   refine one_ (i := 16) (N := some 63) #[true, true, true, true, true, true, true, true, true, true, true, true, true, true, true, true, true, false, false, false] rfl rfl (one_of HT_.out (by kernel_rfl)) (by decide) (fun K hK => ?_)
   refine goes_ Tryz.func15 (by kernel_rfl) rfl #[.agg #[.string a0_0, .string a0_1, .slice A0_2 l0_2.length c0_2]] (by rfl) rfl rfl (by (try simp only [List.map_toArray, List.map_cons, List.map_nil]); first | done | rfl | (simp only [List.length_drop, List.length_take]; rfl)) ?_
   with_reducible refine (majordomoref06_Check.calls k1 a0_0 a0_1 _ _ l0_2 t422 _ ?side1 ?side2 A51.out).mono ?_
   (case side1 => repeat (first | exact (Kd.C_below HR0_2.out HB.out) | (with_reducible refine Kd.C_alloc ?_ _) | (with_reducible refine Kd.C_drewN ?_ _) | (with_reducible refine Kd.C_drew ?_)))
   (case side2 => exact HC0_2.out)
   rintro e w66 ⟨rfl, hb⟩
   refine ⟨_, rfl, ?_⟩
   have n0_ := As.mk (Kd.R_below (by (with_reducible repeat (first | apply Kd.R_alloc | apply Kd.R_drewN | apply Kd.R_drew)); exact HO_398002.out) hb)
   have n1_ := As.mk (Kd.R_below (by (with_reducible repeat (first | apply Kd.R_alloc | apply Kd.R_drewN | apply Kd.R_drew)); exact HO_411002.out) hb)
   have n2_ := As.mk (Kd.R_below (by (with_reducible repeat (first | apply Kd.R_alloc | apply Kd.R_drewN | apply Kd.R_drew)); exact HO_418002.out) hb)
   have n3_ := As.mk (kB (g := gb395) (o := .cells #[.string a0_0, .string a0_1, .slice A0_2 l0_2.length c0_2] 24 (0, 0)) (by (with_reducible repeat (first | refine kN ?_ _ | refine kD ?_ | refine kA ?_ _)); exact BK395.out) hb)
   have n4_ := As.mk (kB (g := gb397) (o := .cells #[.string a0_0, .string a0_1, .slice Ao62 x398002_1.length co62] 24 (0, 0)) (by (with_reducible repeat (first | refine kN ?_ _ | refine kD ?_ | refine kA ?_ _)); exact BK397.out) hb)
   have n5_ := As.mk (kB (g := gb410) (o := .cells #[.string t404, .string t405, .slice Ao56 x411002_1.length co56] 24 (0, 0)) (by (with_reducible repeat (first | refine kN ?_ _ | refine kD ?_ | refine kA ?_ _)); exact BK410.out) hb)
   have n6_ := As.mk (kB (g := gb417) (o := .cells #[.string t411, .string t412, u418002] 24 (0, 0)) (by (with_reducible repeat (first | refine kN ?_ _ | refine kD ?_ | refine kA ?_ _)); exact BK417.out) hb)
   have n7_ := As.mk (bT (by repeat (first | (with_reducible first | exact HB.out | apply bA | apply bN | apply bD | refine bS ?_ GE395.out | refine bS ?_ GE397.out | refine bS ?_ GE410.out | refine bS ?_ GE417.out) | exact HB.out)) hb)
   clear HO_398002
   clear HO_411002
   clear HO_418002
   clear BK395
   clear BK397
   clear BK410
   clear BK417
   clear HB
   have HO_398002 := n0_
   have HO_411002 := n1_
   have HO_418002 := n2_
   have BK395 := n3_
   have BK397 := n4_
   have BK410 := n5_
   have BK417 := n6_
   have HB := n7_
   clear n0_ n1_ n2_ n3_ n4_ n5_ n6_ n7_
   (try clear hb)
   (try clear hb2)
   (try clear hk)
   (try clear hi)
   refine hK.out _ _ ⟨(kC BK397.out 0).trans rfl, (kC BK397.out 1).trans rfl, (kC BK397.out 2).trans rfl, (kC BK395.out 0).trans rfl, (kC BK395.out 1).trans rfl, (kC BK395.out 2).trans rfl⟩ (fun hHeld => ?_)
   clear hK K
   refine norm_ (a' := ?_) ?_ ?_
   rotate_left
   · show Act.put _ (some 63) _ = _
     simp only [Act.put, zA, zZ, zS, i64_w, i32_w]
     rfl
   refine pure_ (i := 17) (N := some 64) (v := ?_) (a' := ?_) #[true, true, true, true, true, true, true, true, true, true, true, true, true, true, true, true, true, true, false, false] rfl rfl (any_of HT_.out (by kernel_rfl)) (fun _ _ _ h => h) (Or.inl ⟨by rfl, ?_⟩) ?_ ?_
   rotate_left
   · intro w'
     go_simp
     with_reducible rfl
   rotate_left
   · simp only [Act.put, zA, zZ, zS, i64_w, i32_w]
     rfl
   refine pure_ (i := 18) (N := some 65) (v := ?_) (a' := ?_) #[true, true, true, true, true, true, true, true, true, true, true, true, true, true, true, true, true, true, true, false] rfl rfl (any_of HT_.out (by kernel_rfl)) (fun _ _ _ h => h) (Or.inl ⟨by rfl, ?_⟩) ?_ ?_
   rotate_left
   · intro w'
     go_simp
     with_reducible rfl
   rotate_left
   · simp only [Act.put, zA, zZ, zS, i64_w, i32_w]
     rfl
   refine pure_ (i := 19) (N := some 2) (v := ?_) (a' := ?_) #[true, true, true, true, true, true, true, true, true, true, true, true, true, true, true, true, true, true, true, true] rfl rfl (any_of HT_.out (by kernel_rfl)) (fun _ _ _ h => h) (Or.inl ⟨by rfl, ?_⟩) ?_ ?_
   rotate_left
   · intro w'
     go_simp
     with_reducible rfl
   rotate_left
   · simp only [Act.put, zA, zZ, zS, i64_w, i32_w]
     rfl
   refine done_ (done_of HT_.out (by kernel_rfl)) ?_
   try go_wp2
   go_ret
   exact ⟨by first | rfl | (simp [errW_none, errW_some] <;> rfl) | (simp [*, errW_none, errW_some] <;> rfl), by repeat (first | (with_reducible first | exact HB.out | apply bA | apply bN | apply bD | refine bS ?_ GE395.out | refine bS ?_ GE397.out | refine bS ?_ GE410.out | refine bS ?_ GE417.out) | exact HB.out)⟩
end Go.Proofs.YtkgafkoopefghaaGreatDoor.PA
end
