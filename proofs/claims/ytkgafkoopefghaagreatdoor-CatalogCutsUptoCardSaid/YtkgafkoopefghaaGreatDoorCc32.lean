/- A part of this law; its conditions stand in the last text. -/
import Derived.Test.YtkgafkoopefghaaGreatDoorCc8
import Derived.Test.YtkgafkoopefghaaGreatDoorCc23
import Derived.Test.YtkgafkoopefghaaGreatDoorCc25
import Derived.Test.YtkgafkoopefghaaGreatDoorCc30
import Derived.Test.YtkgafkoopefghaaGreatDoorCc14
import Derived.Test.YtkgafkoopefghaaGreatDoorCc6
import Derived.Test.YtkgafkoopefghaaGreatDoorCc9
import Derived.Test.YtkgafkoopefghaaGreatDoorCc15
import Derived.Test.YtkgafkoopefghaaGreatDoorCc31
section
namespace Go.Proofs.YtkgafkoopefghaaGreatDoor.PA
open Go.RowKit Go.Proofs.YtkgafkoopefghaaGreatDoorW.PrintWords Go.Proofs.YtkgafkoopefghaaGreatDoorW.PrintLast Go.Proofs.YtkgafkoopefghaaGreatDoorW.PrintMore
open Go.Proofs.YtkgafkoopefghaaGreatDoor.Hk
attribute [local go_sem high] Go.Proofs.YtkgafkoopefghaaGreatDoor.Hk.binOp_leq_not
attribute [local go_sem] max2_int min2_int max_two min_two max_three min_three max_four min_four
set_option linter.unusedVariables false
set_option linter.unusedSimpArgs false
mutual
def catalog_Check.j0 : Nat → Bool → Int → ByteArray → List (S24) → List (S50) → Option (Int)
 | 0, _, _, _, _, _ => none
 | k + 1, x16, x289000, x289001, x289002, x289003 => if x16 = true then (some 70) else (if (x289002.length : Int) > 32 then (some 5) else (if (x289003.length : Int) > 96 then (some 5) else (catalog_Check.l0 k x289002 (x289002.length : Int) 0 x289000 x289001 x289002 x289003)))
def catalog_Check.l0 : Nat → List (S24) → Int → Int → Int → ByteArray → List (S24) → List (S50) → Option (Int)
 | 0, _, _, _, _, _, _, _ => none
 | k + 1, x41, x42, x43, x289000, x289001, x289002, x289003 => if x43 < x42 then (if 0 ≤ x43 then (if x43 < (x41.length : Int) then ((resource_Full.f ((rd_T24 x41 x43).f0) ((rd_T24 x41 x43).f1) ((rd_T24 x41 x43).f2)).bind fun bt295 => (if bt295.2.2.2 = 0 then ((catalog_same.f k bt295.1 bt295.2.1 bt295.2.2.1 ((rd_T24 x41 x43).f0) ((rd_T24 x41 x43).f1) ((rd_T24 x41 x43).f2)).bind fun t302 => (if t302 = true then (if x43 > 0 then (if 0 ≤ (wrap64 (x43 - 1)) then (if (wrap64 (x43 - 1)) < (x289002.length : Int) then ((resource_Less.f ((rd_T24 x41 x43).f0) ((rd_T24 x41 x43).f1) ((rd_T24 x41 x43).f2) ((rd_T24 x289002 (wrap64 (x43 - 1))).f0) ((rd_T24 x289002 (wrap64 (x43 - 1))).f1) ((rd_T24 x289002 (wrap64 (x43 - 1))).f2)).bind fun t304 => (catalog_Check.j2 k x43 x41 x42 x43 t304 x289000 x289001 x289002 x289003 ((rd_T24 x41 x43).f0) ((rd_T24 x41 x43).f1) ((rd_T24 x41 x43).f2))) else (none)) else (none)) else (catalog_Check.j2 k x43 x41 x42 x43 false x289000 x289001 x289002 x289003 ((rd_T24 x41 x43).f0) ((rd_T24 x41 x43).f1) ((rd_T24 x41 x43).f2))) else (catalog_Check.j2 k x43 x41 x42 x43 true x289000 x289001 x289002 x289003 ((rd_T24 x41 x43).f0) ((rd_T24 x41 x43).f1) ((rd_T24 x41 x43).f2)))) else (some bt295.2.2.2))) else (none)) else (none)) else ((catalog_blocked.f x289002).bind fun t307 => (if t307 = true then (some 90) else (catalog_Check.l1 k (x289002.length : Int) x289003 (x289003.length : Int) 0 x289000 x289001 x289002 x289003)))
def catalog_Check.j2 : Nat → Int → List (S24) → Int → Int → Bool → Int → ByteArray → List (S24) → List (S50) → ByteArray → ByteArray → List (S31) → Option (Int)
 | 0, _, _, _, _, _, _, _, _, _, _, _, _ => none
 | k + 1, x4, x41, x42, x43, x57, x289000, x289001, x289002, x289003, x295000, x295001, x295002 => if x57 = true then (some 70) else (if x4 > 0 then (if 0 ≤ (wrap64 (x4 - 1)) then (if (wrap64 (x4 - 1)) < (x289002.length : Int) then ((resource_Less.f ((rd_T24 x289002 (wrap64 (x4 - 1))).f0) ((rd_T24 x289002 (wrap64 (x4 - 1))).f1) ((rd_T24 x289002 (wrap64 (x4 - 1))).f2) x295000 x295001 x295002).bind fun t306 => (if t306 = true then (catalog_Check.l0 k x41 x42 (wrap64 (x43 + 1)) x289000 x289001 x289002 x289003) else (some 71))) else (none)) else (none)) else (catalog_Check.l0 k x41 x42 (wrap64 (x43 + 1)) x289000 x289001 x289002 x289003))
def catalog_Check.l1 : Nat → Int → List (S50) → Int → Int → Int → ByteArray → List (S24) → List (S50) → Option (Int)
 | 0, _, _, _, _, _, _, _, _ => none
 | k + 1, x8, x98, x99, x100, x289000, x289001, x289002, x289003 => if x100 < x99 then (if 0 ≤ x100 then (if x100 < (x98.length : Int) then (if (mn ((rd_T50 x98 x100).f0) ((rd_T50 x98 x100).f1)) < 0 then (some 72) else (if (mx ((rd_T50 x98 x100).f0) ((rd_T50 x98 x100).f1)) ≥ x8 then (some 72) else (if ((rd_T50 x98 x100).f0) = ((rd_T50 x98 x100).f1) then (some 72) else (if x100 > 0 then (if 0 ≤ (wrap64 (x100 - 1)) then (if (wrap64 (x100 - 1)) < (x289003.length : Int) then ((catalog_behind.f ((rd_T50 x98 x100).f0) ((rd_T50 x98 x100).f1) ((rd_T50 x98 x100).f2) ((rd_T50 x289003 (wrap64 (x100 - 1))).f0) ((rd_T50 x289003 (wrap64 (x100 - 1))).f1) ((rd_T50 x289003 (wrap64 (x100 - 1))).f2)).bind fun t311 => (if t311 = true then (catalog_Check.l1 k x8 x98 x99 (wrap64 (x100 + 1)) x289000 x289001 x289002 x289003) else (some 72))) else (none)) else (none)) else (catalog_Check.l1 k x8 x98 x99 (wrap64 (x100 + 1)) x289000 x289001 x289002 x289003))))) else (none)) else (none)) else ((catalog_bytes.f x289000 x289001 x289002 x289003).bind fun t312 => (if (t312.length : Int) > 2432 then (some 5) else (some 0)))
end
def catalog_Check.f (k : Nat) (a0_0 : Int) (a0_1 : ByteArray) (l0_2 : List (S24)) (l0_3 : List (S50)) : Option (Int) := (tables_Check.f (⟨#[103, 114, 111, 117, 112, 115]⟩ : ByteArray) a0_1 (([(⟨#[]⟩ : ByteArray)] : List ByteArray))).bind fun t292 => (if a0_0 < 0 then (catalog_Check.j0 k true a0_0 a0_1 l0_2 l0_3) else (if a0_0 ≥ 65536 then (catalog_Check.j0 k true a0_0 a0_1 l0_2 l0_3) else (catalog_Check.j0 k (t292 != 0) a0_0 a0_1 l0_2 l0_3)))
def catalog_Check.T12 : Bool × List (List Nat × List Nat) := (true, [([], []), ([], []), ([0, 1], [0, 1]), ([2], [2]), ([3, 2], [3]), ([4], [4]), ([5, 4], [4, 5]), ([6, 4, 4], [4, 6]), ([7], [7]), ([7], [7]), ([9, 7], [7, 9]), ([7], [7]), ([11, 7], [7, 11]), ([10, 12, 7], [7, 10, 12]), ([13, 7], [7, 13]), ([8, 14, 7, 7], [7, 8, 14]), ([7, 15, 4], [4, 7, 15]), ([4, 16], [4, 16]), ([17, 15], [17])])
def catalog_Check.B12 : List Nat := [0, 0, 3, 7, 15, 31, 63, 127, 255, 255, 767, 255, 2303, 7935, 16127, 32767, 65535, 131071, 262143]
theorem catalog_Check.tab12 : rtab .any (opsOf Tryz.f21 12) = catalog_Check.T12 := by kernel_rfl
theorem catalog_Check.bits12 : waitsOk catalog_Check.T12.2 catalog_Check.B12 = true := by kernel_rfl
def catalog_Check.T14 : Bool × List (List Nat × List Nat) := (true, [([], []), ([0], [0]), ([1], [1]), ([2], [2]), ([3, 2], [2, 3]), ([2], [2]), ([5, 2], [2, 5]), ([4, 6, 2], [2, 4, 6]), ([7, 2], [2, 7]), ([2], [2]), ([8, 9, 2, 2], [2, 8, 9]), ([10, 2], [2, 10]), ([2, 11], [2, 11]), ([12, 10], [12])])
def catalog_Check.B14 : List Nat := [0, 1, 3, 7, 15, 7, 39, 127, 255, 7, 1023, 2047, 4095, 8191]
theorem catalog_Check.tab14 : rtab .any (opsOf Tryz.f21 14) = catalog_Check.T14 := by kernel_rfl
theorem catalog_Check.bits14 : waitsOk catalog_Check.T14.2 catalog_Check.B14 = true := by kernel_rfl
def catalog_Check.T23 : Bool × List (List Nat × List Nat) := (true, [([], []), ([0], [0]), ([], []), ([2], [2]), ([1, 3], [1, 3]), ([4], [4]), ([5], [5]), ([6], [6]), ([7, 6], [6, 7]), ([6], [6]), ([9, 6], [6, 9]), ([8, 10, 6], [6, 8, 10]), ([6], [6]), ([11, 12, 6], [6, 11, 12]), ([6, 13], [6, 13]), ([14, 6], [14]), ([15], [15]), ([16, 15], [15, 16]), ([15], [15]), ([18, 15], [15, 18]), ([17, 19, 15], [15, 17, 19]), ([15, 20], [15, 20]), ([21, 15], [21]), ([22], [22]), ([23, 22], [22, 23]), ([24, 22, 22], [22, 24]), ([25], [25]), ([25], [25]), ([27, 25], [25, 27]), ([25], [25]), ([29, 25], [25, 29]), ([28, 30, 25], [25, 28, 30]), ([31, 25], [25, 31]), ([26, 32, 25, 25], [25, 26, 32]), ([33, 25], [25, 33]), ([25, 34, 22], [22, 25, 34]), ([22, 35], [22, 35])])
def catalog_Check.B23 : List Nat := [0, 1, 0, 4, 15, 31, 63, 127, 255, 127, 639, 2047, 127, 8191, 16383, 32767, 65535, 131071, 65535, 327679, 1048575, 2097151, 4194303, 8388607, 16777215, 33554431, 67108863, 67108863, 201326591, 67108863, 603979775, 2080374783, 4227858431, 8589934591, 17179869183, 34359738367, 68719476735]
theorem catalog_Check.tab23 : rtab .any (opsOf Tryz.f21 23) = catalog_Check.T23 := by kernel_rfl
theorem catalog_Check.bits23 : waitsOk catalog_Check.T23.2 catalog_Check.B23 = true := by kernel_rfl
set_option maxHeartbeats 8000000 in
set_option maxRecDepth 100000 in
theorem catalog_Check.calls (k : Nat) (a0_0 : Int) (a0_1 : ByteArray) (A0_2 : Option Addr) (c0_2 : Nat) (l0_2 : List (S24)) (A0_3 : Option Addr) (c0_3 : Nat) (l0_3 : List (S50)) (r : Int) (w : World) (hr0_2 : Kd.C k24 w A0_2 l0_2.length l0_2) (hc0_2 : l0_2.length ≤ c0_2) (hr0_3 : Kd.C k50 w A0_3 l0_3.length l0_3) (hc0_3 : l0_3.length ≤ c0_3) (h : catalog_Check.f k a0_0 a0_1 l0_2 l0_3 = some r) (hU : UtfOk w) :
 Calls Tryz.prog 21 #[.agg #[.int .i64 a0_0, .string a0_1, .slice A0_2 l0_2.length c0_2, .slice A0_3 l0_3.length c0_3]] w fun e w' => e = .returned (.int .i64 r) ∧ Below w.heap.size w w' := by
 have HU := As.mk hU
 clear hU
 have hu37 := Tryz.underlying37
 have hu85 := Tryz.underlying85
 have hu24 := Tryz.underlying24
 have hu50 := Tryz.underlying50
 have HR0_2 := As.mk hr0_2
 have HC0_2 := As.mk hc0_2
 clear hr0_2 hc0_2
 have HR0_3 := As.mk hr0_3
 have HC0_3 := As.mk hc0_3
 clear hr0_3 hc0_3
 have HB := As.mk (Below.refl w.heap.size w)
 have H : ((tables_Check.f (⟨#[103, 114, 111, 117, 112, 115]⟩ : ByteArray) a0_1 (([(⟨#[]⟩ : ByteArray)] : List ByteArray))).bind fun t292 => (if a0_0 < 0 then (catalog_Check.j0 k true a0_0 a0_1 l0_2 l0_3) else (if a0_0 ≥ 65536 then (catalog_Check.j0 k true a0_0 a0_1 l0_2 l0_3) else (catalog_Check.j0 k (t292 != 0) a0_0 a0_1 l0_2 l0_3)))) = some r := h
 clear h
 obtain ⟨y289, hy289⟩ : ∃ y_ : List ByteArray, y_ = (([(⟨#[]⟩ : ByteArray)] : List ByteArray)) := ⟨_, rfl⟩
 replace H : ((tables_Check.f (⟨#[103, 114, 111, 117, 112, 115]⟩ : ByteArray) a0_1 y289).bind fun t292 => (if a0_0 < 0 then (catalog_Check.j0 k true a0_0 a0_1 l0_2 l0_3) else (if a0_0 ≥ 65536 then (catalog_Check.j0 k true a0_0 a0_1 l0_2 l0_3) else (catalog_Check.j0 k (t292 != 0) a0_0 a0_1 l0_2 l0_3)))) = some r := by first | (rw [hy289]; with_reducible exact H) | (have H2_ := (Option.bind_some _ _).symm.trans H; rw [hy289]; with_reducible exact H2_) | (have H2_ := (Option.bind_some _ _).symm.trans H; with_reducible exact H2_) | with_reducible exact H | (rw [hy289]; exact H) | exact H
 have Ny289 := As.mk hy289
 clear hy289
 replace H := Option.bind_eq_some_iff.mp H
 obtain ⟨t292, A20, H⟩ := H
 replace H : (if a0_0 < 0 then (catalog_Check.j0 k true a0_0 a0_1 l0_2 l0_3) else (if a0_0 ≥ 65536 then (catalog_Check.j0 k true a0_0 a0_1 l0_2 l0_3) else (catalog_Check.j0 k (t292 != 0) a0_0 a0_1 l0_2 l0_3))) = some r := H
 have A2 := As.mk A20
 clear A20
 have HC3 := As.mk H
 clear H
 go_enter Tryz.func21, Tryz.ntmps21
 go_upto_region 2 with (first | ((with_reducible refine gate_dst (N := 1) rfl ?_); (try (refine gate_guard (by rfl) ?_; dsimp only)); refine box_event ?hg (N := 1) ?hd (cs := #[.int .i64 a0_0, .string a0_1, .slice A0_2 l0_2.length c0_2, .slice A0_3 l0_3.length c0_3]) (t := 37) ?hr ?_; (case hd => rfl); (case hg => rfl); (case hr => first | (go_simp; done) | (go_simp; rfl)); intro gb288 hg w4 hbox hb; have n0_ := As.mk (bT (by repeat (first | (with_reducible first | exact HB.out | apply bA | apply bN | apply bD) | exact HB.out)) hb); have n1_ := As.mk (hbox); have n2_ := As.mk ((by rw [hg]; exact (bZ (by repeat (first | (with_reducible first | exact HB.out | apply bA | apply bN | apply bD) | exact HB.out))) : w.heap.size ≤ gb288)); have n3_ := As.mk ((by rw [hg]; exact (bZ (by repeat (first | (with_reducible first | exact HB.out | apply bA | apply bN | apply bD) | exact HB.out))) : w.heap.size ≤ gb288)); clear HB; have HB := n0_; have BK288 := n1_; have GW288 := n2_; have GE288 := n3_; clear n0_ n1_ n2_ n3_; clear hb hbox hg; have hcz5_0 : w4.cell? ⟨gb288, 0, none⟩ = some (.int .i64 a0_0) := (kC BK288.out 0).trans rfl; have hcz5_1 : w4.cell? ⟨gb288, 1, none⟩ = some (.string a0_1) := (kC BK288.out 1).trans rfl; have hcz5_2 : w4.cell? ⟨gb288, 2, none⟩ = some (.slice A0_2 l0_2.length c0_2) := (kC BK288.out 2).trans rfl; have hcz5_3 : w4.cell? ⟨gb288, 3, none⟩ = some (.slice A0_3 l0_3.length c0_3) := (kC BK288.out 3).trans rfl; have hfz5_0 := kF BK288.out 0; have hfz5_1 := kF BK288.out 1; have hfz5_2 := kF BK288.out 2; have hfz5_3 := kF BK288.out 3) | ((with_reducible refine gate_dst (N := 13) rfl ?_); (try (refine gate_guard (by rfl) ?_; dsimp only)); refine Kd.R_lit Kd.string _ 9 ?hg (N := 13) ?hd (xs := ([(⟨#[]⟩ : ByteArray)] : List ByteArray)) (inner := [.string (⟨#[]⟩ : ByteArray)]) (ok := fun _ => True) (okp := fun _ => True) ?hr ?hp (fun _ hk => hk) trivial (Below.refl _ _) (Nat.le_refl _) (by simp) ?_; (case hd => rfl); (case hg => rfl); (case hr => first | (go_simp; done) | (go_simp; rfl)); (case hp => exact (Reps.one (show Kd.M Kd.string _ _ _ (⟨#[]⟩ : ByteArray) [.string (⟨#[]⟩ : ByteArray)] from rfl) (Reps.none _ _))); intro v290 w6 ho7 hb hg_ hnew_; clear hg_ hnew_; (first | rw [← Ny289.out] at ho7 | (simp only [Int.reduceToNat] at ho7; rw [← Ny289.out] at ho7)); have n0_ := As.mk (Kd.R_lower ho7 (bZ (by repeat (first | (with_reducible first | exact HB.out | apply bA | apply bN | apply bD | refine bS ?_ GE288.out) | exact HB.out)))); have n1_ := As.mk (kB (g := gb288) (o := .cells #[.int .i64 a0_0, .string a0_1, .slice A0_2 l0_2.length c0_2, .slice A0_3 l0_3.length c0_3] 37 (0, 0)) (by (with_reducible repeat (first | refine kN ?_ _ | refine kD ?_ | refine kA ?_ _)); exact BK288.out) hb); have n2_ := As.mk (bT (by repeat (first | (with_reducible first | exact HB.out | apply bA | apply bN | apply bD | refine bS ?_ GE288.out) | exact HB.out)) hb); clear BK288; clear HB; have HO291 := n0_; have BK288 := n1_; have HB := n2_; clear n0_ n1_ n2_; clear hb ho7; obtain ⟨Ao8, co8, eo8⟩ := Kd.R_slice HO291.out; subst eo8) | ((with_reducible refine gate_callee (f := 39) rfl ?_); refine goesL_ (some 15) rfl rfl Tryz.func39 (by kernel_rfl) rfl #[.string (⟨#[103, 114, 111, 117, 112, 115]⟩ : ByteArray), .agg #[.string a0_1, .slice Ao8 y289.length co8]] rfl (by (try simp only [List.map_toArray, List.map_cons, List.map_nil]); first | done | rfl | (simp only [List.length_drop, List.length_take]; rfl)) ?_; (with_reducible refine (tables_Check.calls (⟨#[103, 114, 111, 117, 112, 115]⟩ : ByteArray) a0_1 _ _ y289 t292 _ ?side1 ?side2 A2.out).mono ?_); (case side1 => repeat (first | exact (Kd.R_reads' HO291.out).2.2 | (with_reducible refine Kd.C_alloc ?_ _) | (with_reducible refine Kd.C_drewN ?_ _) | (with_reducible refine Kd.C_drew ?_))); (case side2 => exact (Kd.R_reads' HO291.out).2.1); rintro e w9 ⟨rfl, hb⟩; refine ⟨_, rfl, ?_⟩; have n0_ := As.mk (Kd.R_below (by (with_reducible repeat (first | apply Kd.R_alloc | apply Kd.R_drewN | apply Kd.R_drew)); exact HO291.out) hb); have n1_ := As.mk (kB (g := gb288) (o := .cells #[.int .i64 a0_0, .string a0_1, .slice A0_2 l0_2.length c0_2, .slice A0_3 l0_3.length c0_3] 37 (0, 0)) (by (with_reducible repeat (first | refine kN ?_ _ | refine kD ?_ | refine kA ?_ _)); exact BK288.out) hb); have n2_ := As.mk (bT (by repeat (first | (with_reducible first | exact HB.out | apply bA | apply bN | apply bD | refine bS ?_ GE288.out) | exact HB.out)) hb); clear HO291; clear BK288; clear HB; have HO291 := n0_; have BK288 := n1_; have HB := n2_; clear n0_ n1_ n2_; (try clear hb); (try clear hb2); (try clear hk); (try clear hi)))
 (try simp only [Act.put, zA, zZ, zS])
 go_cut [16] (fun v16 wc => ∃ (kq : Nat) (x16_2 : Bool), v16 = .bool x16_2 ∧ As (catalog_Check.j0 kq x16_2 a0_0 a0_1 l0_2 l0_3 = some r) ∧ As (kq ≤ k) ∧ As (wc.heap[gb288]? = some (.cells #[.int .i64 a0_0, .string a0_1, (.slice A0_2 l0_2.length c0_2), (.slice A0_3 l0_3.length c0_3)] 37 (0, 0))) ∧ As (Below w.heap.size w wc))
 case first =>
  have H := HC3.out
  clear HC3
  by_cases c10 : a0_0 < 0
  · rw [if_pos c10] at H
    have c10b0 : decide (a0_0 < 0) = true := decide_eq_true c10
    clear c10
    (first | rw [c10b0] | (simp only [i64_w, i32_w]; rw [c10b0]) | skip)
    have H' := As.mk H
    clear H
    have hcz11_0 : w9.cell? ⟨gb288, 0, none⟩ = some (.int .i64 a0_0) := (kC BK288.out 0).trans rfl
    have hcz11_1 : w9.cell? ⟨gb288, 1, none⟩ = some (.string a0_1) := (kC BK288.out 1).trans rfl
    have hcz11_2 : w9.cell? ⟨gb288, 2, none⟩ = some (.slice A0_2 l0_2.length c0_2) := (kC BK288.out 2).trans rfl
    have hcz11_3 : w9.cell? ⟨gb288, 3, none⟩ = some (.slice A0_3 l0_3.length c0_3) := (kC BK288.out 3).trans rfl
    have hfz11_0 := kF BK288.out 0
    have hfz11_1 := kF BK288.out 1
    have hfz11_2 := kF BK288.out 2
    have hfz11_3 := kF BK288.out 3
    go_wp2
    go_meet
    case rel => exact ⟨_, (true), (by first | rfl | (simp; done) | (simp [*]; done)), H', ⟨by first | omega | exact Nat.le_refl _⟩, ⟨by (with_reducible repeat (first | refine kN ?_ _ | refine kD ?_ | refine kA ?_ _)); exact BK288.out⟩, ⟨by repeat (first | (with_reducible first | exact HB.out | apply bA | apply bN | apply bD | refine bS ?_ GE288.out) | exact HB.out)⟩⟩
  rw [if_neg c10] at H
  have c10b0 : decide (a0_0 < 0) = false := decide_eq_false c10
  clear c10
  (first | rw [c10b0] | (simp only [i64_w, i32_w]; rw [c10b0]) | skip)
  by_cases c12 : a0_0 ≥ 65536
  · rw [if_pos c12] at H
    have c12b0 : decide (65536 ≤ a0_0) = true := decide_eq_true c12
    clear c12
    have H' := As.mk H
    clear H
    have hcz13_0 : w9.cell? ⟨gb288, 0, none⟩ = some (.int .i64 a0_0) := (kC BK288.out 0).trans rfl
    have hcz13_1 : w9.cell? ⟨gb288, 1, none⟩ = some (.string a0_1) := (kC BK288.out 1).trans rfl
    have hcz13_2 : w9.cell? ⟨gb288, 2, none⟩ = some (.slice A0_2 l0_2.length c0_2) := (kC BK288.out 2).trans rfl
    have hcz13_3 : w9.cell? ⟨gb288, 3, none⟩ = some (.slice A0_3 l0_3.length c0_3) := (kC BK288.out 3).trans rfl
    have hfz13_0 := kF BK288.out 0
    have hfz13_1 := kF BK288.out 1
    have hfz13_2 := kF BK288.out 2
    have hfz13_3 := kF BK288.out 3
    go_wp2
    go_meet
    case rel => exact ⟨_, (true), (by first | rfl | (simp; done) | (simp [*]; done)), H', ⟨by first | omega | exact Nat.le_refl _⟩, ⟨by (with_reducible repeat (first | refine kN ?_ _ | refine kD ?_ | refine kA ?_ _)); exact BK288.out⟩, ⟨by repeat (first | (with_reducible first | exact HB.out | apply bA | apply bN | apply bD | refine bS ?_ GE288.out) | exact HB.out)⟩⟩
  rw [if_neg c12] at H
  have c12b0 : decide (65536 ≤ a0_0) = false := decide_eq_false c12
  clear c12
  have H' := As.mk H
  clear H
  have hcz14_0 : w9.cell? ⟨gb288, 0, none⟩ = some (.int .i64 a0_0) := (kC BK288.out 0).trans rfl
  have hcz14_1 : w9.cell? ⟨gb288, 1, none⟩ = some (.string a0_1) := (kC BK288.out 1).trans rfl
  have hcz14_2 : w9.cell? ⟨gb288, 2, none⟩ = some (.slice A0_2 l0_2.length c0_2) := (kC BK288.out 2).trans rfl
  have hcz14_3 : w9.cell? ⟨gb288, 3, none⟩ = some (.slice A0_3 l0_3.length c0_3) := (kC BK288.out 3).trans rfl
  have hfz14_0 := kF BK288.out 0
  have hfz14_1 := kF BK288.out 1
  have hfz14_2 := kF BK288.out 2
  have hfz14_3 := kF BK288.out 3
  go_wp2
  go_meet
  case rel => exact ⟨_, ((t292 != 0)), (by first | rfl | (simp; done) | (simp [*]; done)), H', ⟨by first | omega | exact Nat.le_refl _⟩, ⟨by (with_reducible repeat (first | refine kN ?_ _ | refine kD ?_ | refine kA ?_ _)); exact BK288.out⟩, ⟨by repeat (first | (with_reducible first | exact HB.out | apply bA | apply bN | apply bD | refine bS ?_ GE288.out) | exact HB.out)⟩⟩
 case rest =>
  clear HC3
  try clear c1
  try clear c2
  try clear p2
  try clear c3
  try clear c10
  try clear c10b0
  try clear c12
  try clear c12b0
  try clear hcz11_0
  try clear hcz11_1
  try clear hcz11_2
  try clear hcz11_3
  try clear hcz13_0
  try clear hcz13_1
  try clear hcz13_2
  try clear hcz13_3
  try clear hcz14_0
  try clear hcz14_1
  try clear hcz14_2
  try clear hcz14_3
  try clear hcz5_0
  try clear hcz5_1
  try clear hcz5_2
  try clear hcz5_3
  try clear hfz11_0
  try clear hfz11_1
  try clear hfz11_2
  try clear hfz11_3
  try clear hfz13_0
  try clear hfz13_1
  try clear hfz13_2
  try clear hfz13_3
  try clear hfz14_0
  try clear hfz14_1
  try clear hfz14_2
  try clear hfz14_3
  try clear hfz5_0
  try clear hfz5_1
  try clear hfz5_2
  try clear hfz5_3
  obtain ⟨kq, x16_2, rfl, HA, HJ2, BK288, HB⟩ := hcut
  cases kq with
  | zero => exact absurd HA.out (by simp [catalog_Check.j0])
  | succ kj2 =>
   have H := HA.out
   clear HA
   simp only [catalog_Check.j0] at H
   by_cases c15 : x16_2 = true
   · subst c15
     have H1 : (some 70) = some r := by rw [if_pos rfl] at H; exact H
     clear H
     have H := H1
     clear H1
     obtain rfl := Option.some.inj H
     go_wp2
     go_ret
     exact ⟨by first | rfl | (simp [errW_none, errW_some] <;> rfl) | (simp [*, errW_none, errW_some] <;> rfl), by repeat (first | (with_reducible first | exact HB.out | apply bA | apply bN | apply bD | refine bS ?_ GE288.out) | exact HB.out)⟩
   replace c15 := Bool.eq_false_iff.mpr c15
   subst c15
   have H1 : (if (l0_2.length : Int) > 32 then (some 5) else (if (l0_3.length : Int) > 96 then (some 5) else (catalog_Check.l0 kj2 l0_2 (l0_2.length : Int) 0 a0_0 a0_1 l0_2 l0_3))) = some r := by rw [if_neg (show ¬ (false = true) by decide)] at H; exact H
   clear H
   have H := H1
   clear H1
   by_cases c16 : (l0_2.length : Int) > 32
   · rw [if_pos c16] at H
     have c16b0 : decide (32 < (l0_2.length : Int)) = true := decide_eq_true c16
     have c16b1 : decide (32 < l0_2.length) = true := decide_eq_true (by omega)
     clear c16
     obtain rfl := Option.some.inj H
     have hcz17_0 : wc.cell? ⟨gb288, 0, none⟩ = some (.int .i64 a0_0) := (kC BK288.out 0).trans rfl
     have hcz17_1 : wc.cell? ⟨gb288, 1, none⟩ = some (.string a0_1) := (kC BK288.out 1).trans rfl
     have hcz17_2 : wc.cell? ⟨gb288, 2, none⟩ = some (.slice A0_2 l0_2.length c0_2) := (kC BK288.out 2).trans rfl
     have hcz17_3 : wc.cell? ⟨gb288, 3, none⟩ = some (.slice A0_3 l0_3.length c0_3) := (kC BK288.out 3).trans rfl
     have hfz17_0 := kF BK288.out 0
     have hfz17_1 := kF BK288.out 1
     have hfz17_2 := kF BK288.out 2
     have hfz17_3 := kF BK288.out 3
     go_wp2
     go_ret
     exact ⟨by first | rfl | (simp [errW_none, errW_some] <;> rfl) | (simp [*, errW_none, errW_some] <;> rfl), by repeat (first | (with_reducible first | exact HB.out | apply bA | apply bN | apply bD | refine bS ?_ GE288.out) | exact HB.out)⟩
   rw [if_neg c16] at H
   have c16b0 : decide (32 < (l0_2.length : Int)) = false := decide_eq_false c16
   have c16b1 : decide (32 < l0_2.length) = false := decide_eq_false (by omega)
   clear c16
   by_cases c18 : (l0_3.length : Int) > 96
   · rw [if_pos c18] at H
     have c18b0 : decide (96 < (l0_3.length : Int)) = true := decide_eq_true c18
     have c18b1 : decide (96 < l0_3.length) = true := decide_eq_true (by omega)
     clear c18
     obtain rfl := Option.some.inj H
     have hcz19_0 : wc.cell? ⟨gb288, 0, none⟩ = some (.int .i64 a0_0) := (kC BK288.out 0).trans rfl
     have hcz19_1 : wc.cell? ⟨gb288, 1, none⟩ = some (.string a0_1) := (kC BK288.out 1).trans rfl
     have hcz19_2 : wc.cell? ⟨gb288, 2, none⟩ = some (.slice A0_2 l0_2.length c0_2) := (kC BK288.out 2).trans rfl
     have hcz19_3 : wc.cell? ⟨gb288, 3, none⟩ = some (.slice A0_3 l0_3.length c0_3) := (kC BK288.out 3).trans rfl
     have hfz19_0 := kF BK288.out 0
     have hfz19_1 := kF BK288.out 1
     have hfz19_2 := kF BK288.out 2
     have hfz19_3 := kF BK288.out 3
     go_wp2
     go_ret
     exact ⟨by first | rfl | (simp [errW_none, errW_some] <;> rfl) | (simp [*, errW_none, errW_some] <;> rfl), by repeat (first | (with_reducible first | exact HB.out | apply bA | apply bN | apply bD | refine bS ?_ GE288.out) | exact HB.out)⟩
   rw [if_neg c18] at H
   have c18b0 : decide (96 < (l0_3.length : Int)) = false := decide_eq_false c18
   have c18b1 : decide (96 < l0_3.length) = false := decide_eq_false (by omega)
   clear c18
   have H' := As.mk H
   clear H
   have hcz20_0 : wc.cell? ⟨gb288, 0, none⟩ = some (.int .i64 a0_0) := (kC BK288.out 0).trans rfl
   have hcz20_1 : wc.cell? ⟨gb288, 1, none⟩ = some (.string a0_1) := (kC BK288.out 1).trans rfl
   have hcz20_2 : wc.cell? ⟨gb288, 2, none⟩ = some (.slice A0_2 l0_2.length c0_2) := (kC BK288.out 2).trans rfl
   have hcz20_3 : wc.cell? ⟨gb288, 3, none⟩ = some (.slice A0_3 l0_3.length c0_3) := (kC BK288.out 3).trans rfl
   have hfz20_0 := kF BK288.out 0
   have hfz20_1 := kF BK288.out 1
   have hfz20_2 := kF BK288.out 2
   have hfz20_3 := kF BK288.out 3
   go_wp2
   go_loopg [43] kj2 (fun kq v43 w' => ∃ (x43_2 : Int), v43 = .int .i64 x43_2 ∧ As (catalog_Check.l0 kq l0_2 (l0_2.length : Int) x43_2 a0_0 a0_1 l0_2 l0_3 = some r) ∧ As (kq ≤ kj2) ∧ As (w'.heap[gb288]? = some (.cells #[.int .i64 a0_0, .string a0_1, (.slice A0_2 l0_2.length c0_2), (.slice A0_3 l0_3.length c0_3)] 37 (0, 0))) ∧ As (Below w.heap.size w w'))
   case atStart => exact ⟨(0), (by first | rfl | (simp; done) | (simp [*]; done)), H', ⟨Nat.le_refl _⟩, ⟨by (with_reducible repeat (first | refine kN ?_ _ | refine kD ?_ | refine kA ?_ _)); exact BK288.out⟩, ⟨by repeat (first | (with_reducible first | exact HB.out | apply bA | apply bN | apply bD | refine bS ?_ GE288.out) | exact HB.out)⟩⟩
   case round =>
    clear H'
    try clear c1
    try clear c2
    try clear p2
    try clear c3
    try clear c10
    try clear c10b0
    try clear c12
    try clear c12b0
    try clear c15
    try clear c16
    try clear c16b0
    try clear c16b1
    try clear c18
    try clear c18b0
    try clear c18b1
    try clear hcz11_0
    try clear hcz11_1
    try clear hcz11_2
    try clear hcz11_3
    try clear hcz13_0
    try clear hcz13_1
    try clear hcz13_2
    try clear hcz13_3
    try clear hcz14_0
    try clear hcz14_1
    try clear hcz14_2
    try clear hcz14_3
    try clear hcz17_0
    try clear hcz17_1
    try clear hcz17_2
    try clear hcz17_3
    try clear hcz19_0
    try clear hcz19_1
    try clear hcz19_2
    try clear hcz19_3
    try clear hcz20_0
    try clear hcz20_1
    try clear hcz20_2
    try clear hcz20_3
    try clear hcz5_0
    try clear hcz5_1
    try clear hcz5_2
    try clear hcz5_3
    try clear hfz11_0
    try clear hfz11_1
    try clear hfz11_2
    try clear hfz11_3
    try clear hfz13_0
    try clear hfz13_1
    try clear hfz13_2
    try clear hfz13_3
    try clear hfz14_0
    try clear hfz14_1
    try clear hfz14_2
    try clear hfz14_3
    try clear hfz17_0
    try clear hfz17_1
    try clear hfz17_2
    try clear hfz17_3
    try clear hfz19_0
    try clear hfz19_1
    try clear hfz19_2
    try clear hfz19_3
    try clear hfz20_0
    try clear hfz20_1
    try clear hfz20_2
    try clear hfz20_3
    try clear hfz5_0
    try clear hfz5_1
    try clear hfz5_2
    try clear hfz5_3
    try clear p2
    obtain ⟨x43_2, rfl, HA, HK2, BK288, HB⟩ := hrel
    cases gk with
    | zero => exact absurd HA.out (by simp [catalog_Check.l0])
    | succ k2 =>
     have H := HA.out
     clear HA
     simp only [catalog_Check.l0] at H
     by_cases c21 : x43_2 < (l0_2.length : Int)
     · rw [if_pos c21] at H
       have c21b0 : decide (x43_2 < (l0_2.length : Int)) = true := decide_eq_true c21
       clear c21
       by_cases c22 : 0 ≤ x43_2
       rotate_left
       · rw [if_neg c22] at H
         exact absurd H (by simp)
       rw [if_pos c22] at H
       have c22b0 : decide (0 ≤ x43_2) = true := decide_eq_true c22
       clear c22
       by_cases c23 : x43_2 < (l0_2.length : Int)
       rotate_left
       · rw [if_neg c23] at H
         exact absurd H (by simp)
       rw [if_pos c23] at H
       have c23b0 : decide (x43_2 < (l0_2.length : Int)) = true := decide_eq_true c23
       clear c23
       replace H := Option.bind_eq_some_iff.mp H
       obtain ⟨⟨t295, t296, t297, t300⟩, A240, H⟩ := H
       replace H : (if t300 = 0 then ((catalog_same.f k2 t295 t296 t297 ((rd_T24 l0_2 x43_2).f0) ((rd_T24 l0_2 x43_2).f1) ((rd_T24 l0_2 x43_2).f2)).bind fun t302 => (if t302 = true then (if x43_2 > 0 then (if 0 ≤ (wrap64 (x43_2 - 1)) then (if (wrap64 (x43_2 - 1)) < (l0_2.length : Int) then ((resource_Less.f ((rd_T24 l0_2 x43_2).f0) ((rd_T24 l0_2 x43_2).f1) ((rd_T24 l0_2 x43_2).f2) ((rd_T24 l0_2 (wrap64 (x43_2 - 1))).f0) ((rd_T24 l0_2 (wrap64 (x43_2 - 1))).f1) ((rd_T24 l0_2 (wrap64 (x43_2 - 1))).f2)).bind fun t304 => (catalog_Check.j2 k2 x43_2 l0_2 (l0_2.length : Int) x43_2 t304 a0_0 a0_1 l0_2 l0_3 ((rd_T24 l0_2 x43_2).f0) ((rd_T24 l0_2 x43_2).f1) ((rd_T24 l0_2 x43_2).f2))) else (none)) else (none)) else (catalog_Check.j2 k2 x43_2 l0_2 (l0_2.length : Int) x43_2 false a0_0 a0_1 l0_2 l0_3 ((rd_T24 l0_2 x43_2).f0) ((rd_T24 l0_2 x43_2).f1) ((rd_T24 l0_2 x43_2).f2))) else (catalog_Check.j2 k2 x43_2 l0_2 (l0_2.length : Int) x43_2 true a0_0 a0_1 l0_2 l0_3 ((rd_T24 l0_2 x43_2).f0) ((rd_T24 l0_2 x43_2).f1) ((rd_T24 l0_2 x43_2).f2)))) else (some t300)) = some r := H
       have A24 := As.mk A240
       clear A240
       by_cases c25 : t300 = 0
       rotate_left
       · rw [if_neg c25] at H
         have c25b0 : (t300 == 0) = false := beq_eq_false_iff_ne.mpr c25
         have c25b1 : (t300 != 0) = true := bne_iff_ne.mpr c25
         obtain rfl := Option.some.inj H
         have p293 : 0 ≤ (x43_2 : Int) := of_decide_eq_true (by first | (with_reducible assumption) | assumption)
         have q293 : x43_2 < (l0_2.length : Int) := of_decide_eq_true (by first | (with_reducible assumption) | assumption)
         obtain ⟨ad293, A293_2, c293_2, e293, hx293_0, hx293_1, hx293_2, hl293_2, hi293_2⟩ := at_T24 HR0_2.out x43_2 p293 q293
         cases e293
         replace hx293_0 := (HB.out.cell (World.block_lt_of_cell? w _ hx293_0)).trans hx293_0
         replace hx293_1 := (HB.out.cell (World.block_lt_of_cell? w _ hx293_1)).trans hx293_1
         replace hx293_2 := (HB.out.cell (World.block_lt_of_cell? w _ hx293_2)).trans hx293_2
         have HR293_2 := As.mk hi293_2
         have HC293_2 := As.mk hl293_2
         clear hi293_2 hl293_2
         replace p293 := eq_true p293
         replace q293 := eq_true q293
         go_wp2_with (first | ((with_reducible refine gate_dst (N := 5) rfl ?_); (try (refine gate_guard (by rfl) ?_; dsimp only)); refine box_event ?hg (N := 5) ?hd (cs := #[.string (⟨#[]⟩ : ByteArray), .string (⟨#[]⟩ : ByteArray), .slice none 0 0]) (t := 24) ?hr ?_; (case hd => rfl); (case hg => rfl); (case hr => first | (go_simp; done) | (go_simp; rfl)); intro gb294 hg w65 hbox hb; have n0_ := As.mk (kB (g := gb288) (o := .cells #[.int .i64 a0_0, .string a0_1, .slice (some ad293) l0_2.length c0_2, .slice A0_3 l0_3.length c0_3] 37 (0, 0)) (by (with_reducible repeat (first | refine kN ?_ _ | refine kD ?_ | refine kA ?_ _)); exact BK288.out) hb); have n1_ := As.mk (bT (by repeat (first | (with_reducible first | exact HB.out | apply bA | apply bN | apply bD | refine bS ?_ GE288.out) | exact HB.out)) hb); have n2_ := As.mk (hbox); have n3_ := As.mk ((by rw [hg]; exact (bZ (by repeat (first | (with_reducible first | exact HB.out | apply bA | apply bN | apply bD | refine bS ?_ GE288.out) | exact HB.out))) : w.heap.size ≤ gb294)); have n4_ := As.mk ((by rw [hg]; exact (bZ (by repeat (first | (with_reducible first | exact HB.out | apply bA | apply bN | apply bD | refine bS ?_ GE288.out) | exact HB.out))) : w.heap.size ≤ gb294)); have n5_ := As.mk ((by rw [hg]; exact Nat.ne_of_lt (blk_lt (g := gb288) (o := .cells #[.int .i64 a0_0, .string a0_1, .slice (some ad293) l0_2.length c0_2, .slice A0_3 l0_3.length c0_3] 37 (0, 0)) (by (with_reducible repeat (first | refine kN ?_ _ | refine kD ?_ | refine kA ?_ _)); exact BK288.out)) : gb288 ≠ gb294)); have n6_ := As.mk ((by rw [hg]; exact Nat.ne_of_gt (blk_lt (g := gb288) (o := .cells #[.int .i64 a0_0, .string a0_1, .slice (some ad293) l0_2.length c0_2, .slice A0_3 l0_3.length c0_3] 37 (0, 0)) (by (with_reducible repeat (first | refine kN ?_ _ | refine kD ?_ | refine kA ?_ _)); exact BK288.out)) : gb294 ≠ gb288)); clear BK288; clear HB; have BK288 := n0_; have HB := n1_; have BK294 := n2_; have GW294 := n3_; have GE294 := n4_; have NB288_294 := n5_; have NB294_288 := n6_; clear n0_ n1_ n2_ n3_ n4_ n5_ n6_; clear hb hbox hg; have hnb66 := NB294_288.out; have hnc66 := NB288_294.out; have hcz67_0 : w65.cell? ⟨gb294, 0, none⟩ = some (.string (⟨#[]⟩ : ByteArray)) := (kC BK294.out 0).trans rfl; have hcz67_1 : w65.cell? ⟨gb294, 1, none⟩ = some (.string (⟨#[]⟩ : ByteArray)) := (kC BK294.out 1).trans rfl; have hcz67_2 : w65.cell? ⟨gb294, 2, none⟩ = some (.slice none 0 0) := (kC BK294.out 2).trans rfl; have hfz67_0 := kF BK294.out 0; have hfz67_1 := kF BK294.out 1; have hfz67_2 := kF BK294.out 2) | ((with_reducible refine gate_callee (f := 11) rfl ?_); refine goesL_ (some 50) rfl rfl Tryz.func11 (by kernel_rfl) rfl #[.agg #[.string ((rd_T24 l0_2 x43_2).f0), .string ((rd_T24 l0_2 x43_2).f1), .slice A293_2 ((rd_T24 l0_2 x43_2).f2).length c293_2]] rfl (by (try simp only [List.map_toArray, List.map_cons, List.map_nil]); first | done | rfl | (simp only [List.length_drop, List.length_take]; rfl)) ?_; (with_reducible refine (resource_Full.calls ((rd_T24 l0_2 x43_2).f0) ((rd_T24 l0_2 x43_2).f1) _ _ ((rd_T24 l0_2 x43_2).f2) t295 t296 t297 t300 _ ?side1 ?side2 A24.out (UtfOk.of_below HU.out (by repeat (first | (with_reducible first | exact HB.out | apply bA | apply bN | apply bD | refine bS ?_ GE288.out | refine bS ?_ GE294.out) | exact HB.out)))).mono ?_); (case side1 => exact Kd.C_below HR293_2.out (by repeat (first | (with_reducible first | exact HB.out | apply bA | apply bN | apply bD | refine bS ?_ GE288.out | refine bS ?_ GE294.out) | exact HB.out))); (case side2 => exact HC293_2.out); rintro e w68 ⟨v298, rfl, ho0, hb⟩; refine ⟨_, rfl, ?_⟩; have n0_ := As.mk (Kd.R_lower ho0 (bZ (by repeat (first | (with_reducible first | exact HB.out | apply bA | apply bN | apply bD | refine bS ?_ GE288.out | refine bS ?_ GE294.out) | exact HB.out)))); have n1_ := As.mk (kB (g := gb288) (o := .cells #[.int .i64 a0_0, .string a0_1, .slice (some ad293) l0_2.length c0_2, .slice A0_3 l0_3.length c0_3] 37 (0, 0)) (by (with_reducible repeat (first | refine kN ?_ _ | refine kD ?_ | refine kA ?_ _)); refine kR ?_ NB288_294.out _; (with_reducible repeat (first | refine kN ?_ _ | refine kD ?_ | refine kA ?_ _)); refine kR ?_ NB288_294.out _; (with_reducible repeat (first | refine kN ?_ _ | refine kD ?_ | refine kA ?_ _)); refine kR ?_ NB288_294.out _; (with_reducible repeat (first | refine kN ?_ _ | refine kD ?_ | refine kA ?_ _)); exact BK288.out) hb); have n2_ := As.mk (kB (g := gb294) (o := .cells #[.string ((rd_T24 l0_2 x43_2).f0), .string ((rd_T24 l0_2 x43_2).f1), .slice A293_2 ((rd_T24 l0_2 x43_2).f2).length c293_2] 24 (0, 0)) (by (with_reducible repeat (first | refine kN ?_ _ | refine kD ?_ | refine kA ?_ _)); refine kP (cs := #[.string ((rd_T24 l0_2 x43_2).f0), .string ((rd_T24 l0_2 x43_2).f1), .slice none 0 0]) ?_ 2 _ rfl; (with_reducible repeat (first | refine kN ?_ _ | refine kD ?_ | refine kA ?_ _)); refine kP (cs := #[.string ((rd_T24 l0_2 x43_2).f0), .string (⟨#[]⟩ : ByteArray), .slice none 0 0]) ?_ 1 _ rfl; (with_reducible repeat (first | refine kN ?_ _ | refine kD ?_ | refine kA ?_ _)); refine kP (cs := #[.string (⟨#[]⟩ : ByteArray), .string (⟨#[]⟩ : ByteArray), .slice none 0 0]) ?_ 0 _ rfl; (with_reducible repeat (first | refine kN ?_ _ | refine kD ?_ | refine kA ?_ _)); exact BK294.out) hb); have n3_ := As.mk (bT (by repeat (first | (with_reducible first | exact HB.out | apply bA | apply bN | apply bD | refine bS ?_ GE288.out | refine bS ?_ GE294.out) | exact HB.out)) hb); clear BK288; clear BK294; clear HB; have HO299 := n0_; have BK288 := n1_; have BK294 := n2_; have HB := n3_; clear n0_ n1_ n2_ n3_; (try clear hb); (try clear hb2); (try clear hk); (try clear hi); (try clear ho0)) | ((with_reducible refine gate_dst (N := 6) rfl ?_); (try (refine gate_guard (by rfl) ?_; dsimp only)); refine box_event ?hg (N := 6) ?hd (cs := #[.string (⟨#[]⟩ : ByteArray), .string (⟨#[]⟩ : ByteArray), .slice none 0 0]) (t := 24) ?hr ?_; (case hd => rfl); (case hg => rfl); (case hr => first | (go_simp; done) | (go_simp; rfl)); intro gb301 hg w69 hbox hb; have n0_ := As.mk (Kd.R_below (by (with_reducible repeat (first | apply Kd.R_alloc | apply Kd.R_drewN | apply Kd.R_drew)); exact HO299.out) hb); have n1_ := As.mk (kB (g := gb288) (o := .cells #[.int .i64 a0_0, .string a0_1, .slice (some ad293) l0_2.length c0_2, .slice A0_3 l0_3.length c0_3] 37 (0, 0)) (by (with_reducible repeat (first | refine kN ?_ _ | refine kD ?_ | refine kA ?_ _)); exact BK288.out) hb); have n2_ := As.mk (kB (g := gb294) (o := .cells #[.string ((rd_T24 l0_2 x43_2).f0), .string ((rd_T24 l0_2 x43_2).f1), .slice A293_2 ((rd_T24 l0_2 x43_2).f2).length c293_2] 24 (0, 0)) (by (with_reducible repeat (first | refine kN ?_ _ | refine kD ?_ | refine kA ?_ _)); exact BK294.out) hb); have n3_ := As.mk (bT (by repeat (first | (with_reducible first | exact HB.out | apply bA | apply bN | apply bD | refine bS ?_ GE288.out | refine bS ?_ GE294.out) | exact HB.out)) hb); have n4_ := As.mk (hbox); have n5_ := As.mk ((by rw [hg]; exact (bZ (by repeat (first | (with_reducible first | exact HB.out | apply bA | apply bN | apply bD | refine bS ?_ GE288.out | refine bS ?_ GE294.out) | exact HB.out))) : w.heap.size ≤ gb301)); have n6_ := As.mk ((by rw [hg]; exact (bZ (by repeat (first | (with_reducible first | exact HB.out | apply bA | apply bN | apply bD | refine bS ?_ GE288.out | refine bS ?_ GE294.out) | exact HB.out))) : w.heap.size ≤ gb301)); have n7_ := As.mk ((by rw [hg]; exact Nat.ne_of_lt (blk_lt (g := gb288) (o := .cells #[.int .i64 a0_0, .string a0_1, .slice (some ad293) l0_2.length c0_2, .slice A0_3 l0_3.length c0_3] 37 (0, 0)) (by (with_reducible repeat (first | refine kN ?_ _ | refine kD ?_ | refine kA ?_ _)); exact BK288.out)) : gb288 ≠ gb301)); have n8_ := As.mk ((by rw [hg]; exact Nat.ne_of_gt (blk_lt (g := gb288) (o := .cells #[.int .i64 a0_0, .string a0_1, .slice (some ad293) l0_2.length c0_2, .slice A0_3 l0_3.length c0_3] 37 (0, 0)) (by (with_reducible repeat (first | refine kN ?_ _ | refine kD ?_ | refine kA ?_ _)); exact BK288.out)) : gb301 ≠ gb288)); have n9_ := As.mk ((by rw [hg]; exact Nat.ne_of_lt (blk_lt (g := gb294) (o := .cells #[.string ((rd_T24 l0_2 x43_2).f0), .string ((rd_T24 l0_2 x43_2).f1), .slice A293_2 ((rd_T24 l0_2 x43_2).f2).length c293_2] 24 (0, 0)) (by (with_reducible repeat (first | refine kN ?_ _ | refine kD ?_ | refine kA ?_ _)); exact BK294.out)) : gb294 ≠ gb301)); have n10_ := As.mk ((by rw [hg]; exact Nat.ne_of_gt (blk_lt (g := gb294) (o := .cells #[.string ((rd_T24 l0_2 x43_2).f0), .string ((rd_T24 l0_2 x43_2).f1), .slice A293_2 ((rd_T24 l0_2 x43_2).f2).length c293_2] 24 (0, 0)) (by (with_reducible repeat (first | refine kN ?_ _ | refine kD ?_ | refine kA ?_ _)); exact BK294.out)) : gb301 ≠ gb294)); clear HO299; clear BK288; clear BK294; clear HB; have HO299 := n0_; have BK288 := n1_; have BK294 := n2_; have HB := n3_; have BK301 := n4_; have GW301 := n5_; have GE301 := n6_; have NB288_301 := n7_; have NB301_288 := n8_; have NB294_301 := n9_; have NB301_294 := n10_; clear n0_ n1_ n2_ n3_ n4_ n5_ n6_ n7_ n8_ n9_ n10_; clear hb hbox hg; have hnb70 := NB301_288.out; have hnc70 := NB288_301.out; have hnb71 := NB301_294.out; have hnc71 := NB294_301.out; have hcz72_0 : w69.cell? ⟨gb301, 0, none⟩ = some (.string (⟨#[]⟩ : ByteArray)) := (kC BK301.out 0).trans rfl; have hcz72_1 : w69.cell? ⟨gb301, 1, none⟩ = some (.string (⟨#[]⟩ : ByteArray)) := (kC BK301.out 1).trans rfl; have hcz72_2 : w69.cell? ⟨gb301, 2, none⟩ = some (.slice none 0 0) := (kC BK301.out 2).trans rfl; have hfz72_0 := kF BK301.out 0; have hfz72_1 := kF BK301.out 1; have hfz72_2 := kF BK301.out 2; obtain ⟨Ao73, co73, eo73⟩ := Kd.R_slice HO299.out; subst eo73))
         go_ret
         exact ⟨by first | rfl | (simp [errW_none, errW_some] <;> rfl) | (simp [*, errW_none, errW_some] <;> rfl), by repeat (first | (with_reducible first | exact HB.out | apply bA | apply bN | apply bD | refine bS ?_ GE288.out | refine bS ?_ GE294.out | refine bS ?_ GE301.out) | exact HB.out)⟩
       rw [if_pos c25] at H
       have c25b0 : (t300 == 0) = true := beq_iff_eq.mpr c25
       have c25b1 : (t300 != 0) = false := bne_eq_false_iff_eq.mpr c25
       clear c25
       have HC26 := As.mk H
       clear H
       have p293 : 0 ≤ (x43_2 : Int) := of_decide_eq_true (by first | (with_reducible assumption) | assumption)
       have q293 : x43_2 < (l0_2.length : Int) := of_decide_eq_true (by first | (with_reducible assumption) | assumption)
       obtain ⟨ad293, A293_2, c293_2, e293, hx293_0, hx293_1, hx293_2, hl293_2, hi293_2⟩ := at_T24 HR0_2.out x43_2 p293 q293
       cases e293
       replace hx293_0 := (HB.out.cell (World.block_lt_of_cell? w _ hx293_0)).trans hx293_0
       replace hx293_1 := (HB.out.cell (World.block_lt_of_cell? w _ hx293_1)).trans hx293_1
       replace hx293_2 := (HB.out.cell (World.block_lt_of_cell? w _ hx293_2)).trans hx293_2
       have HR293_2 := As.mk hi293_2
       have HC293_2 := As.mk hl293_2
       clear hi293_2 hl293_2
       replace p293 := eq_true p293
       replace q293 := eq_true q293
       go_upto_region 12 with (first | ((with_reducible refine gate_dst (N := 5) rfl ?_); (try (refine gate_guard (by rfl) ?_; dsimp only)); refine box_event ?hg (N := 5) ?hd (cs := #[.string (⟨#[]⟩ : ByteArray), .string (⟨#[]⟩ : ByteArray), .slice none 0 0]) (t := 24) ?hr ?_; (case hd => rfl); (case hg => rfl); (case hr => first | (go_simp; done) | (go_simp; rfl)); intro gb294 hg w27 hbox hb; have n0_ := As.mk (kB (g := gb288) (o := .cells #[.int .i64 a0_0, .string a0_1, .slice (some ad293) l0_2.length c0_2, .slice A0_3 l0_3.length c0_3] 37 (0, 0)) (by (with_reducible repeat (first | refine kN ?_ _ | refine kD ?_ | refine kA ?_ _)); exact BK288.out) hb); have n1_ := As.mk (bT (by repeat (first | (with_reducible first | exact HB.out | apply bA | apply bN | apply bD | refine bS ?_ GE288.out) | exact HB.out)) hb); have n2_ := As.mk (hbox); have n3_ := As.mk ((by rw [hg]; exact (bZ (by repeat (first | (with_reducible first | exact HB.out | apply bA | apply bN | apply bD | refine bS ?_ GE288.out) | exact HB.out))) : w.heap.size ≤ gb294)); have n4_ := As.mk ((by rw [hg]; exact (bZ (by repeat (first | (with_reducible first | exact HB.out | apply bA | apply bN | apply bD | refine bS ?_ GE288.out) | exact HB.out))) : w.heap.size ≤ gb294)); have n5_ := As.mk ((by rw [hg]; exact Nat.ne_of_lt (blk_lt (g := gb288) (o := .cells #[.int .i64 a0_0, .string a0_1, .slice (some ad293) l0_2.length c0_2, .slice A0_3 l0_3.length c0_3] 37 (0, 0)) (by (with_reducible repeat (first | refine kN ?_ _ | refine kD ?_ | refine kA ?_ _)); exact BK288.out)) : gb288 ≠ gb294)); have n6_ := As.mk ((by rw [hg]; exact Nat.ne_of_gt (blk_lt (g := gb288) (o := .cells #[.int .i64 a0_0, .string a0_1, .slice (some ad293) l0_2.length c0_2, .slice A0_3 l0_3.length c0_3] 37 (0, 0)) (by (with_reducible repeat (first | refine kN ?_ _ | refine kD ?_ | refine kA ?_ _)); exact BK288.out)) : gb294 ≠ gb288)); clear BK288; clear HB; have BK288 := n0_; have HB := n1_; have BK294 := n2_; have GW294 := n3_; have GE294 := n4_; have NB288_294 := n5_; have NB294_288 := n6_; clear n0_ n1_ n2_ n3_ n4_ n5_ n6_; clear hb hbox hg; have hnb28 := NB294_288.out; have hnc28 := NB288_294.out; have hcz29_0 : w27.cell? ⟨gb294, 0, none⟩ = some (.string (⟨#[]⟩ : ByteArray)) := (kC BK294.out 0).trans rfl; have hcz29_1 : w27.cell? ⟨gb294, 1, none⟩ = some (.string (⟨#[]⟩ : ByteArray)) := (kC BK294.out 1).trans rfl; have hcz29_2 : w27.cell? ⟨gb294, 2, none⟩ = some (.slice none 0 0) := (kC BK294.out 2).trans rfl; have hfz29_0 := kF BK294.out 0; have hfz29_1 := kF BK294.out 1; have hfz29_2 := kF BK294.out 2) | ((with_reducible refine gate_callee (f := 11) rfl ?_); refine goesL_ (some 50) rfl rfl Tryz.func11 (by kernel_rfl) rfl #[.agg #[.string ((rd_T24 l0_2 x43_2).f0), .string ((rd_T24 l0_2 x43_2).f1), .slice A293_2 ((rd_T24 l0_2 x43_2).f2).length c293_2]] rfl (by (try simp only [List.map_toArray, List.map_cons, List.map_nil]); first | done | rfl | (simp only [List.length_drop, List.length_take]; rfl)) ?_; (with_reducible refine (resource_Full.calls ((rd_T24 l0_2 x43_2).f0) ((rd_T24 l0_2 x43_2).f1) _ _ ((rd_T24 l0_2 x43_2).f2) t295 t296 t297 t300 _ ?side1 ?side2 A24.out (UtfOk.of_below HU.out (by repeat (first | (with_reducible first | exact HB.out | apply bA | apply bN | apply bD | refine bS ?_ GE288.out | refine bS ?_ GE294.out) | exact HB.out)))).mono ?_); (case side1 => exact Kd.C_below HR293_2.out (by repeat (first | (with_reducible first | exact HB.out | apply bA | apply bN | apply bD | refine bS ?_ GE288.out | refine bS ?_ GE294.out) | exact HB.out))); (case side2 => exact HC293_2.out); rintro e w30 ⟨v298, rfl, ho0, hb⟩; refine ⟨_, rfl, ?_⟩; have n0_ := As.mk (Kd.R_lower ho0 (bZ (by repeat (first | (with_reducible first | exact HB.out | apply bA | apply bN | apply bD | refine bS ?_ GE288.out | refine bS ?_ GE294.out) | exact HB.out)))); have n1_ := As.mk (kB (g := gb288) (o := .cells #[.int .i64 a0_0, .string a0_1, .slice (some ad293) l0_2.length c0_2, .slice A0_3 l0_3.length c0_3] 37 (0, 0)) (by (with_reducible repeat (first | refine kN ?_ _ | refine kD ?_ | refine kA ?_ _)); refine kR ?_ NB288_294.out _; (with_reducible repeat (first | refine kN ?_ _ | refine kD ?_ | refine kA ?_ _)); refine kR ?_ NB288_294.out _; (with_reducible repeat (first | refine kN ?_ _ | refine kD ?_ | refine kA ?_ _)); refine kR ?_ NB288_294.out _; (with_reducible repeat (first | refine kN ?_ _ | refine kD ?_ | refine kA ?_ _)); exact BK288.out) hb); have n2_ := As.mk (kB (g := gb294) (o := .cells #[.string ((rd_T24 l0_2 x43_2).f0), .string ((rd_T24 l0_2 x43_2).f1), .slice A293_2 ((rd_T24 l0_2 x43_2).f2).length c293_2] 24 (0, 0)) (by (with_reducible repeat (first | refine kN ?_ _ | refine kD ?_ | refine kA ?_ _)); refine kP (cs := #[.string ((rd_T24 l0_2 x43_2).f0), .string ((rd_T24 l0_2 x43_2).f1), .slice none 0 0]) ?_ 2 _ rfl; (with_reducible repeat (first | refine kN ?_ _ | refine kD ?_ | refine kA ?_ _)); refine kP (cs := #[.string ((rd_T24 l0_2 x43_2).f0), .string (⟨#[]⟩ : ByteArray), .slice none 0 0]) ?_ 1 _ rfl; (with_reducible repeat (first | refine kN ?_ _ | refine kD ?_ | refine kA ?_ _)); refine kP (cs := #[.string (⟨#[]⟩ : ByteArray), .string (⟨#[]⟩ : ByteArray), .slice none 0 0]) ?_ 0 _ rfl; (with_reducible repeat (first | refine kN ?_ _ | refine kD ?_ | refine kA ?_ _)); exact BK294.out) hb); have n3_ := As.mk (bT (by repeat (first | (with_reducible first | exact HB.out | apply bA | apply bN | apply bD | refine bS ?_ GE288.out | refine bS ?_ GE294.out) | exact HB.out)) hb); clear BK288; clear BK294; clear HB; have HO299 := n0_; have BK288 := n1_; have BK294 := n2_; have HB := n3_; clear n0_ n1_ n2_ n3_; (try clear hb); (try clear hb2); (try clear hk); (try clear hi); (try clear ho0)) | ((with_reducible refine gate_dst (N := 6) rfl ?_); (try (refine gate_guard (by rfl) ?_; dsimp only)); refine box_event ?hg (N := 6) ?hd (cs := #[.string (⟨#[]⟩ : ByteArray), .string (⟨#[]⟩ : ByteArray), .slice none 0 0]) (t := 24) ?hr ?_; (case hd => rfl); (case hg => rfl); (case hr => first | (go_simp; done) | (go_simp; rfl)); intro gb301 hg w31 hbox hb; have n0_ := As.mk (Kd.R_below (by (with_reducible repeat (first | apply Kd.R_alloc | apply Kd.R_drewN | apply Kd.R_drew)); exact HO299.out) hb); have n1_ := As.mk (kB (g := gb288) (o := .cells #[.int .i64 a0_0, .string a0_1, .slice (some ad293) l0_2.length c0_2, .slice A0_3 l0_3.length c0_3] 37 (0, 0)) (by (with_reducible repeat (first | refine kN ?_ _ | refine kD ?_ | refine kA ?_ _)); exact BK288.out) hb); have n2_ := As.mk (kB (g := gb294) (o := .cells #[.string ((rd_T24 l0_2 x43_2).f0), .string ((rd_T24 l0_2 x43_2).f1), .slice A293_2 ((rd_T24 l0_2 x43_2).f2).length c293_2] 24 (0, 0)) (by (with_reducible repeat (first | refine kN ?_ _ | refine kD ?_ | refine kA ?_ _)); exact BK294.out) hb); have n3_ := As.mk (bT (by repeat (first | (with_reducible first | exact HB.out | apply bA | apply bN | apply bD | refine bS ?_ GE288.out | refine bS ?_ GE294.out) | exact HB.out)) hb); have n4_ := As.mk (hbox); have n5_ := As.mk ((by rw [hg]; exact (bZ (by repeat (first | (with_reducible first | exact HB.out | apply bA | apply bN | apply bD | refine bS ?_ GE288.out | refine bS ?_ GE294.out) | exact HB.out))) : w.heap.size ≤ gb301)); have n6_ := As.mk ((by rw [hg]; exact (bZ (by repeat (first | (with_reducible first | exact HB.out | apply bA | apply bN | apply bD | refine bS ?_ GE288.out | refine bS ?_ GE294.out) | exact HB.out))) : w.heap.size ≤ gb301)); have n7_ := As.mk ((by rw [hg]; exact Nat.ne_of_lt (blk_lt (g := gb288) (o := .cells #[.int .i64 a0_0, .string a0_1, .slice (some ad293) l0_2.length c0_2, .slice A0_3 l0_3.length c0_3] 37 (0, 0)) (by (with_reducible repeat (first | refine kN ?_ _ | refine kD ?_ | refine kA ?_ _)); exact BK288.out)) : gb288 ≠ gb301)); have n8_ := As.mk ((by rw [hg]; exact Nat.ne_of_gt (blk_lt (g := gb288) (o := .cells #[.int .i64 a0_0, .string a0_1, .slice (some ad293) l0_2.length c0_2, .slice A0_3 l0_3.length c0_3] 37 (0, 0)) (by (with_reducible repeat (first | refine kN ?_ _ | refine kD ?_ | refine kA ?_ _)); exact BK288.out)) : gb301 ≠ gb288)); have n9_ := As.mk ((by rw [hg]; exact Nat.ne_of_lt (blk_lt (g := gb294) (o := .cells #[.string ((rd_T24 l0_2 x43_2).f0), .string ((rd_T24 l0_2 x43_2).f1), .slice A293_2 ((rd_T24 l0_2 x43_2).f2).length c293_2] 24 (0, 0)) (by (with_reducible repeat (first | refine kN ?_ _ | refine kD ?_ | refine kA ?_ _)); exact BK294.out)) : gb294 ≠ gb301)); have n10_ := As.mk ((by rw [hg]; exact Nat.ne_of_gt (blk_lt (g := gb294) (o := .cells #[.string ((rd_T24 l0_2 x43_2).f0), .string ((rd_T24 l0_2 x43_2).f1), .slice A293_2 ((rd_T24 l0_2 x43_2).f2).length c293_2] 24 (0, 0)) (by (with_reducible repeat (first | refine kN ?_ _ | refine kD ?_ | refine kA ?_ _)); exact BK294.out)) : gb301 ≠ gb294)); clear HO299; clear BK288; clear BK294; clear HB; have HO299 := n0_; have BK288 := n1_; have BK294 := n2_; have HB := n3_; have BK301 := n4_; have GW301 := n5_; have GE301 := n6_; have NB288_301 := n7_; have NB301_288 := n8_; have NB294_301 := n9_; have NB301_294 := n10_; clear n0_ n1_ n2_ n3_ n4_ n5_ n6_ n7_ n8_ n9_ n10_; clear hb hbox hg; have hnb32 := NB301_288.out; have hnc32 := NB288_301.out; have hnb33 := NB301_294.out; have hnc33 := NB294_301.out; have hcz34_0 : w31.cell? ⟨gb301, 0, none⟩ = some (.string (⟨#[]⟩ : ByteArray)) := (kC BK301.out 0).trans rfl; have hcz34_1 : w31.cell? ⟨gb301, 1, none⟩ = some (.string (⟨#[]⟩ : ByteArray)) := (kC BK301.out 1).trans rfl; have hcz34_2 : w31.cell? ⟨gb301, 2, none⟩ = some (.slice none 0 0) := (kC BK301.out 2).trans rfl; have hfz34_0 := kF BK301.out 0; have hfz34_1 := kF BK301.out 1; have hfz34_2 := kF BK301.out 2; obtain ⟨Ao35, co35, eo35⟩ := Kd.R_slice HO299.out; subst eo35))
       (try simp only [Act.put, zA, zZ, zS])
       go_cut [57] (fun v57 wc => ∃ (kq : Nat) (x57_25 : Bool), v57 = .bool x57_25 ∧ As (catalog_Check.j2 kq x43_2 l0_2 (l0_2.length : Int) x43_2 x57_25 a0_0 a0_1 l0_2 l0_3 ((rd_T24 l0_2 x43_2).f0) ((rd_T24 l0_2 x43_2).f1) ((rd_T24 l0_2 x43_2).f2) = some r) ∧ As (kq ≤ k2) ∧ As (Kd.R k31 31 wc w.heap.size (fun _ => True) (.slice Ao35 t297.length co35) t297) ∧ As (wc.heap[gb288]? = some (.cells #[.int .i64 a0_0, .string a0_1, (.slice (some ad293) l0_2.length c0_2), (.slice A0_3 l0_3.length c0_3)] 37 (0, 0))) ∧ As (wc.heap[gb294]? = some (.cells #[.string ((rd_T24 l0_2 x43_2).f0), .string ((rd_T24 l0_2 x43_2).f1), (.slice A293_2 ((rd_T24 l0_2 x43_2).f2).length c293_2)] 24 (0, 0))) ∧ As (wc.heap[gb301]? = some (.cells #[.string t295, .string t296, (.slice Ao35 t297.length co35)] 24 (0, 0))) ∧ As (Below w.heap.size w wc))
       case first =>
        have H := HC26.out
        clear HC26
        replace H := Option.bind_eq_some_iff.mp H
        obtain ⟨t302, A360, H⟩ := H
        replace H : (if t302 = true then (if x43_2 > 0 then (if 0 ≤ (wrap64 (x43_2 - 1)) then (if (wrap64 (x43_2 - 1)) < (l0_2.length : Int) then ((resource_Less.f ((rd_T24 l0_2 x43_2).f0) ((rd_T24 l0_2 x43_2).f1) ((rd_T24 l0_2 x43_2).f2) ((rd_T24 l0_2 (wrap64 (x43_2 - 1))).f0) ((rd_T24 l0_2 (wrap64 (x43_2 - 1))).f1) ((rd_T24 l0_2 (wrap64 (x43_2 - 1))).f2)).bind fun t304 => (catalog_Check.j2 k2 x43_2 l0_2 (l0_2.length : Int) x43_2 t304 a0_0 a0_1 l0_2 l0_3 ((rd_T24 l0_2 x43_2).f0) ((rd_T24 l0_2 x43_2).f1) ((rd_T24 l0_2 x43_2).f2))) else (none)) else (none)) else (catalog_Check.j2 k2 x43_2 l0_2 (l0_2.length : Int) x43_2 false a0_0 a0_1 l0_2 l0_3 ((rd_T24 l0_2 x43_2).f0) ((rd_T24 l0_2 x43_2).f1) ((rd_T24 l0_2 x43_2).f2))) else (catalog_Check.j2 k2 x43_2 l0_2 (l0_2.length : Int) x43_2 true a0_0 a0_1 l0_2 l0_3 ((rd_T24 l0_2 x43_2).f0) ((rd_T24 l0_2 x43_2).f1) ((rd_T24 l0_2 x43_2).f2))) = some r := H
        have A36 := As.mk A360
        clear A360
        by_cases c37 : t302 = true
        rotate_left
        · replace c37 := Bool.eq_false_iff.mpr c37
          subst c37
          have H1 : (catalog_Check.j2 k2 x43_2 l0_2 (l0_2.length : Int) x43_2 true a0_0 a0_1 l0_2 l0_3 ((rd_T24 l0_2 x43_2).f0) ((rd_T24 l0_2 x43_2).f1) ((rd_T24 l0_2 x43_2).f2)) = some r := by rw [if_neg (show ¬ (false = true) by decide)] at H; exact H
          clear H
          have H := H1
          clear H1
          have H' := As.mk H
          clear H
          try go_wp2
          have n0_ : As (Kd.R k31 31 (((w31.setCell ⟨gb301, 0, none⟩ (.string t295)).setCell ⟨gb301, 1, none⟩ (.string t296)).setCell ⟨gb301, 2, none⟩ (.slice Ao35 t297.length co35)) w.heap.size (fun _ => True) (.slice Ao35 t297.length co35) t297) := ⟨by (with_reducible repeat (first | apply Kd.R_alloc | apply Kd.R_drewN | apply Kd.R_drew)); exact Kd.R_mono (Kd.R_far (p := ⟨gb301, 2, none⟩) (Kd.R_far (p := ⟨gb301, 1, none⟩) (Kd.R_far (p := ⟨gb301, 0, none⟩) (Kd.R_types HO299.out BK301.out (by decide)) (fun _ hk => hk.2) (.string t295)) (fun _ hk => hk.2) (.string t296)) (fun _ hk => hk.2) (.slice Ao35 t297.length co35)) (fun _ hk => trivial)⟩
          have n1_ : As ((((w31.setCell ⟨gb301, 0, none⟩ (.string t295)).setCell ⟨gb301, 1, none⟩ (.string t296)).setCell ⟨gb301, 2, none⟩ (.slice Ao35 t297.length co35)).heap[gb288]? = some (.cells #[.int .i64 a0_0, .string a0_1, .slice (some ad293) l0_2.length c0_2, .slice A0_3 l0_3.length c0_3] 37 (0, 0))) := ⟨by (with_reducible repeat (first | refine kN ?_ _ | refine kD ?_ | refine kA ?_ _)); refine kR ?_ NB288_301.out _; (with_reducible repeat (first | refine kN ?_ _ | refine kD ?_ | refine kA ?_ _)); refine kR ?_ NB288_301.out _; (with_reducible repeat (first | refine kN ?_ _ | refine kD ?_ | refine kA ?_ _)); refine kR ?_ NB288_301.out _; (with_reducible repeat (first | refine kN ?_ _ | refine kD ?_ | refine kA ?_ _)); exact BK288.out⟩
          have n2_ : As ((((w31.setCell ⟨gb301, 0, none⟩ (.string t295)).setCell ⟨gb301, 1, none⟩ (.string t296)).setCell ⟨gb301, 2, none⟩ (.slice Ao35 t297.length co35)).heap[gb294]? = some (.cells #[.string ((rd_T24 l0_2 x43_2).f0), .string ((rd_T24 l0_2 x43_2).f1), .slice A293_2 ((rd_T24 l0_2 x43_2).f2).length c293_2] 24 (0, 0))) := ⟨by (with_reducible repeat (first | refine kN ?_ _ | refine kD ?_ | refine kA ?_ _)); refine kR ?_ NB294_301.out _; (with_reducible repeat (first | refine kN ?_ _ | refine kD ?_ | refine kA ?_ _)); refine kR ?_ NB294_301.out _; (with_reducible repeat (first | refine kN ?_ _ | refine kD ?_ | refine kA ?_ _)); refine kR ?_ NB294_301.out _; (with_reducible repeat (first | refine kN ?_ _ | refine kD ?_ | refine kA ?_ _)); exact BK294.out⟩
          have n3_ : As ((((w31.setCell ⟨gb301, 0, none⟩ (.string t295)).setCell ⟨gb301, 1, none⟩ (.string t296)).setCell ⟨gb301, 2, none⟩ (.slice Ao35 t297.length co35)).heap[gb301]? = some (.cells #[.string t295, .string t296, .slice Ao35 t297.length co35] 24 (0, 0))) := ⟨by (with_reducible repeat (first | refine kN ?_ _ | refine kD ?_ | refine kA ?_ _)); refine kP (cs := #[.string t295, .string t296, .slice none 0 0]) ?_ 2 _ rfl; (with_reducible repeat (first | refine kN ?_ _ | refine kD ?_ | refine kA ?_ _)); refine kP (cs := #[.string t295, .string (⟨#[]⟩ : ByteArray), .slice none 0 0]) ?_ 1 _ rfl; (with_reducible repeat (first | refine kN ?_ _ | refine kD ?_ | refine kA ?_ _)); refine kP (cs := #[.string (⟨#[]⟩ : ByteArray), .string (⟨#[]⟩ : ByteArray), .slice none 0 0]) ?_ 0 _ rfl; (with_reducible repeat (first | refine kN ?_ _ | refine kD ?_ | refine kA ?_ _)); exact BK301.out⟩
          have n4_ : As (Below w.heap.size w (((w31.setCell ⟨gb301, 0, none⟩ (.string t295)).setCell ⟨gb301, 1, none⟩ (.string t296)).setCell ⟨gb301, 2, none⟩ (.slice Ao35 t297.length co35))) := ⟨by repeat (first | (with_reducible first | exact HB.out | apply bA | apply bN | apply bD | refine bS ?_ GE288.out | refine bS ?_ GE294.out | refine bS ?_ GE301.out) | exact HB.out)⟩
          (try clear HO299)
          (try clear BK288)
          (try clear BK294)
          (try clear BK301)
          (try clear HB)
          generalize (((w31.setCell ⟨gb301, 0, none⟩ (.string t295)).setCell ⟨gb301, 1, none⟩ (.string t296)).setCell ⟨gb301, 2, none⟩ (.slice Ao35 t297.length co35)) = w50 at n0_ n1_ n2_ n3_ n4_ ⊢
          have HO299 := n0_
          have BK288 := n1_
          have BK294 := n2_
          have BK301 := n3_
          have HB := n4_
          clear n0_ n1_ n2_ n3_ n4_
          have n0_ := As.mk (Kd.R_drew HO299.out)
          have n1_ := As.mk (kD BK288.out)
          have n2_ := As.mk (kD BK294.out)
          have n3_ := As.mk (kD BK301.out)
          have n4_ := As.mk (bD HB.out)
          clear HO299
          clear BK288
          clear BK294
          clear BK301
          clear HB
          have HO299 := n0_
          have BK288 := n1_
          have BK294 := n2_
          have BK301 := n3_
          have HB := n4_
          clear n0_ n1_ n2_ n3_ n4_
          refine start_ (n := 19) (S := fun w' => w'.cell? ⟨gb301, 0, none⟩ = some (.string t295) ∧ w'.cell? ⟨gb301, 1, none⟩ = some (.string t296) ∧ w'.cell? ⟨gb301, 2, none⟩ = some (.slice Ao35 t297.length co35) ∧ w'.cell? ⟨gb294, 0, none⟩ = some (.string ((rd_T24 l0_2 x43_2).f0)) ∧ w'.cell? ⟨gb294, 1, none⟩ = some (.string ((rd_T24 l0_2 x43_2).f1)) ∧ w'.cell? ⟨gb294, 2, none⟩ = some (.slice A293_2 ((rd_T24 l0_2 x43_2).f2).length c293_2)) (ds := []) (upB 19 0) (by kernel_rfl) rfl rfl ⟨(kC BK301.out 0).trans rfl, (kC BK301.out 1).trans rfl, (kC BK301.out 2).trans rfl, (kC BK294.out 0).trans rfl, (kC BK294.out 1).trans rfl, (kC BK294.out 2).trans rfl⟩ (fun hHeld => ?_); refine with_tabW catalog_Check.tab12 catalog_Check.bits12 (fun HT_ HW_ => ?_)
          generalize w50.drew = w51 at HO299 BK288 BK294 BK301 HB hHeld ⊢
          refine sT_ 0 58 HT_ HW_ hHeld (v := ?_) (hy := ?_) (a' := ?_) (ha := ?_) (h := ?_); rotate_left; (rintro w' ⟨s0, s1, s2, s3, s4, s5⟩; go_simp; with_reducible rfl); rotate_left; (simp only [Act.put, zA, zZ, zS, i64_w, i32_w]; rfl)
          refine sT_ 1 59 HT_ HW_ hHeld (v := ?_) (hy := ?_) (a' := ?_) (ha := ?_) (h := ?_); rotate_left; (rintro w' ⟨s0, s1, s2, s3, s4, s5⟩; go_simp; with_reducible rfl); rotate_left; (simp only [Act.put, zA, zZ, zS, i64_w, i32_w]; rfl)
          refine one_ (i := 2) (N := some 60) (upB 19 3) rfl rfl (one_of HT_.out (by kernel_rfl)) (by decide) (fun K hK => ?_)
          refine goes_ Tryz.func40 (by kernel_rfl) rfl #[.agg #[.string t295, .string t296, .slice Ao35 t297.length co35], .agg #[.string ((rd_T24 l0_2 x43_2).f0), .string ((rd_T24 l0_2 x43_2).f1), .slice A293_2 ((rd_T24 l0_2 x43_2).f2).length c293_2]] (by rfl) rfl rfl (by (try simp only [List.map_toArray, List.map_cons, List.map_nil]); first | done | rfl | (simp only [List.length_drop, List.length_take]; rfl)) ?_
          with_reducible refine (catalog_same.calls k2 t295 t296 _ _ t297 ((rd_T24 l0_2 x43_2).f0) ((rd_T24 l0_2 x43_2).f1) _ _ ((rd_T24 l0_2 x43_2).f2) false _ ?side1 ?side2 ?side3 ?side4 A36.out).mono ?_
          (case side1 => repeat (first | exact (Kd.R_reads' HO299.out).2.2 | (with_reducible refine Kd.C_alloc ?_ _) | (with_reducible refine Kd.C_drewN ?_ _) | (with_reducible refine Kd.C_drew ?_)))
          (case side2 => exact (Kd.R_reads' HO299.out).2.1)
          (case side3 => repeat (first | exact (Kd.C_below HR293_2.out HB.out) | (with_reducible refine Kd.C_alloc ?_ _) | (with_reducible refine Kd.C_drewN ?_ _) | (with_reducible refine Kd.C_drew ?_)))
          (case side4 => exact HC293_2.out)
          rintro e w52 ⟨rfl, hb⟩
          refine ⟨_, rfl, ?_⟩
          have n0_ := As.mk (Kd.R_below (by (with_reducible repeat (first | apply Kd.R_alloc | apply Kd.R_drewN | apply Kd.R_drew)); exact HO299.out) hb)
          have n1_ := As.mk (kB (g := gb288) (o := .cells #[.int .i64 a0_0, .string a0_1, .slice (some ad293) l0_2.length c0_2, .slice A0_3 l0_3.length c0_3] 37 (0, 0)) (by (with_reducible repeat (first | refine kN ?_ _ | refine kD ?_ | refine kA ?_ _)); exact BK288.out) hb)
          have n2_ := As.mk (kB (g := gb294) (o := .cells #[.string ((rd_T24 l0_2 x43_2).f0), .string ((rd_T24 l0_2 x43_2).f1), .slice A293_2 ((rd_T24 l0_2 x43_2).f2).length c293_2] 24 (0, 0)) (by (with_reducible repeat (first | refine kN ?_ _ | refine kD ?_ | refine kA ?_ _)); exact BK294.out) hb)
          have n3_ := As.mk (kB (g := gb301) (o := .cells #[.string t295, .string t296, .slice Ao35 t297.length co35] 24 (0, 0)) (by (with_reducible repeat (first | refine kN ?_ _ | refine kD ?_ | refine kA ?_ _)); exact BK301.out) hb)
          have n4_ := As.mk (bT (by repeat (first | (with_reducible first | exact HB.out | apply bA | apply bN | apply bD | refine bS ?_ GE288.out | refine bS ?_ GE294.out | refine bS ?_ GE301.out) | exact HB.out)) hb)
          clear HO299
          clear BK288
          clear BK294
          clear BK301
          clear HB
          have HO299 := n0_
          have BK288 := n1_
          have BK294 := n2_
          have BK301 := n3_
          have HB := n4_
          clear n0_ n1_ n2_ n3_ n4_
          (try clear hb)
          (try clear hb2)
          (try clear hk)
          (try clear hi)
          refine hK.out _ _ ⟨(kC BK301.out 0).trans rfl, (kC BK301.out 1).trans rfl, (kC BK301.out 2).trans rfl, (kC BK294.out 0).trans rfl, (kC BK294.out 1).trans rfl, (kC BK294.out 2).trans rfl⟩ (fun hHeld => ?_)
          clear hK K
          refine norm_ (a' := ?_) ?_ ?_
          rotate_left
          · show Act.put _ (some 60) _ = _
            simp only [Act.put, zA, zZ, zS, i64_w, i32_w]
            rfl
          refine sP_ 3 61 HT_ (v := ?_) (hy := ?_) (a' := ?_) (ha := ?_) (h := ?_); rotate_left; (intro w'; go_simp; with_reducible rfl); rotate_left; (simp only [Act.put, zA, zZ, zS, i64_w, i32_w]; rfl)
          refine sP_ 4 62 HT_ (v := ?_) (hy := ?_) (a' := ?_) (ha := ?_) (h := ?_); rotate_left; (intro w'; go_simp; with_reducible rfl); rotate_left; (simp only [Act.put, zA, zZ, zS, i64_w, i32_w]; rfl)
          refine sN_ 5 63 HT_ (a' := ?_) (ha := ?_) (h := ?_); rotate_left; (simp only [Act.put, zA, zZ, zS, i64_w, i32_w]; rfl)
          refine sN_ 6 64 HT_ (a' := ?_) (ha := ?_) (h := ?_); rotate_left; (simp only [Act.put, zA, zZ, zS, i64_w, i32_w]; rfl)
          refine sN_ 7 65 HT_ (a' := ?_) (ha := ?_) (h := ?_); rotate_left; (simp only [Act.put, zA, zZ, zS, i64_w, i32_w]; rfl)
          refine sN_ 8 66 HT_ (a' := ?_) (ha := ?_) (h := ?_); rotate_left; (simp only [Act.put, zA, zZ, zS, i64_w, i32_w]; rfl)
          refine sN_ 9 67 HT_ (a' := ?_) (ha := ?_) (h := ?_); rotate_left; (simp only [Act.put, zA, zZ, zS, i64_w, i32_w]; rfl)
          refine sN_ 10 68 HT_ (a' := ?_) (ha := ?_) (h := ?_); rotate_left; (simp only [Act.put, zA, zZ, zS, i64_w, i32_w]; rfl)
          refine sN_ 11 69 HT_ (a' := ?_) (ha := ?_) (h := ?_); rotate_left; (simp only [Act.put, zA, zZ, zS, i64_w, i32_w]; rfl)
          refine sN_ 12 70 HT_ (a' := ?_) (ha := ?_) (h := ?_); rotate_left; (simp only [Act.put, zA, zZ, zS, i64_w, i32_w]; rfl)
          refine sN_ 13 71 HT_ (a' := ?_) (ha := ?_) (h := ?_); rotate_left; (simp only [Act.put, zA, zZ, zS, i64_w, i32_w]; rfl)
          refine sN_ 14 72 HT_ (a' := ?_) (ha := ?_) (h := ?_); rotate_left; (simp only [Act.put, zA, zZ, zS, i64_w, i32_w]; rfl)
          refine sN_ 15 73 HT_ (a' := ?_) (ha := ?_) (h := ?_); rotate_left; (simp only [Act.put, zA, zZ, zS, i64_w, i32_w]; rfl)
          refine sN_ 16 74 HT_ (a' := ?_) (ha := ?_) (h := ?_); rotate_left; (simp only [Act.put, zA, zZ, zS, i64_w, i32_w]; rfl)
          refine sP_ 17 75 HT_ (v := ?_) (hy := ?_) (a' := ?_) (ha := ?_) (h := ?_); rotate_left; (intro w'; go_simp; with_reducible rfl); rotate_left; (simp only [Act.put, zA, zZ, zS, i64_w, i32_w]; rfl)
          refine sP_ 18 57 HT_ (v := ?_) (hy := ?_) (a' := ?_) (ha := ?_) (h := ?_); rotate_left; (intro w'; go_simp; with_reducible rfl); rotate_left; (simp only [Act.put, zA, zZ, zS, i64_w, i32_w]; rfl)
          refine done_ (done_of HT_.out (by kernel_rfl)) ?_
          try go_wp2
          go_meet
          case rel => exact ⟨_, (true), (by first | rfl | (simp; done) | (simp [*]; done)), H', ⟨by have := HJ2.out; have := HK2.out; first | omega | exact Nat.le_refl _⟩, ⟨by (with_reducible repeat (first | apply Kd.R_alloc | apply Kd.R_drewN | apply Kd.R_drew)); exact HO299.out⟩, ⟨by (with_reducible repeat (first | refine kN ?_ _ | refine kD ?_ | refine kA ?_ _)); exact BK288.out⟩, ⟨by (with_reducible repeat (first | refine kN ?_ _ | refine kD ?_ | refine kA ?_ _)); exact BK294.out⟩, ⟨by (with_reducible repeat (first | refine kN ?_ _ | refine kD ?_ | refine kA ?_ _)); exact BK301.out⟩, ⟨by repeat (first | (with_reducible first | exact HB.out | apply bA | apply bN | apply bD | refine bS ?_ GE288.out | refine bS ?_ GE294.out | refine bS ?_ GE301.out) | exact HB.out)⟩⟩
        subst c37
        have H1 : (if x43_2 > 0 then (if 0 ≤ (wrap64 (x43_2 - 1)) then (if (wrap64 (x43_2 - 1)) < (l0_2.length : Int) then ((resource_Less.f ((rd_T24 l0_2 x43_2).f0) ((rd_T24 l0_2 x43_2).f1) ((rd_T24 l0_2 x43_2).f2) ((rd_T24 l0_2 (wrap64 (x43_2 - 1))).f0) ((rd_T24 l0_2 (wrap64 (x43_2 - 1))).f1) ((rd_T24 l0_2 (wrap64 (x43_2 - 1))).f2)).bind fun t304 => (catalog_Check.j2 k2 x43_2 l0_2 (l0_2.length : Int) x43_2 t304 a0_0 a0_1 l0_2 l0_3 ((rd_T24 l0_2 x43_2).f0) ((rd_T24 l0_2 x43_2).f1) ((rd_T24 l0_2 x43_2).f2))) else (none)) else (none)) else (catalog_Check.j2 k2 x43_2 l0_2 (l0_2.length : Int) x43_2 false a0_0 a0_1 l0_2 l0_3 ((rd_T24 l0_2 x43_2).f0) ((rd_T24 l0_2 x43_2).f1) ((rd_T24 l0_2 x43_2).f2))) = some r := by rw [if_pos rfl] at H; exact H
        clear H
        have H := H1
        clear H1
        by_cases c38 : x43_2 > 0
        rotate_left
        · rw [if_neg c38] at H
          have c38b0 : decide (0 < x43_2) = false := decide_eq_false c38
          clear c38
          (first | rw [c38b0] | (simp only [i64_w, i32_w]; rw [c38b0]) | skip)
          have H' := As.mk H
          clear H
          try go_wp2
          have n0_ : As (Kd.R k31 31 (((w31.setCell ⟨gb301, 0, none⟩ (.string t295)).setCell ⟨gb301, 1, none⟩ (.string t296)).setCell ⟨gb301, 2, none⟩ (.slice Ao35 t297.length co35)) w.heap.size (fun _ => True) (.slice Ao35 t297.length co35) t297) := ⟨by (with_reducible repeat (first | apply Kd.R_alloc | apply Kd.R_drewN | apply Kd.R_drew)); exact Kd.R_mono (Kd.R_far (p := ⟨gb301, 2, none⟩) (Kd.R_far (p := ⟨gb301, 1, none⟩) (Kd.R_far (p := ⟨gb301, 0, none⟩) (Kd.R_types HO299.out BK301.out (by decide)) (fun _ hk => hk.2) (.string t295)) (fun _ hk => hk.2) (.string t296)) (fun _ hk => hk.2) (.slice Ao35 t297.length co35)) (fun _ hk => trivial)⟩
          have n1_ : As ((((w31.setCell ⟨gb301, 0, none⟩ (.string t295)).setCell ⟨gb301, 1, none⟩ (.string t296)).setCell ⟨gb301, 2, none⟩ (.slice Ao35 t297.length co35)).heap[gb288]? = some (.cells #[.int .i64 a0_0, .string a0_1, .slice (some ad293) l0_2.length c0_2, .slice A0_3 l0_3.length c0_3] 37 (0, 0))) := ⟨by (with_reducible repeat (first | refine kN ?_ _ | refine kD ?_ | refine kA ?_ _)); refine kR ?_ NB288_301.out _; (with_reducible repeat (first | refine kN ?_ _ | refine kD ?_ | refine kA ?_ _)); refine kR ?_ NB288_301.out _; (with_reducible repeat (first | refine kN ?_ _ | refine kD ?_ | refine kA ?_ _)); refine kR ?_ NB288_301.out _; (with_reducible repeat (first | refine kN ?_ _ | refine kD ?_ | refine kA ?_ _)); exact BK288.out⟩
          have n2_ : As ((((w31.setCell ⟨gb301, 0, none⟩ (.string t295)).setCell ⟨gb301, 1, none⟩ (.string t296)).setCell ⟨gb301, 2, none⟩ (.slice Ao35 t297.length co35)).heap[gb294]? = some (.cells #[.string ((rd_T24 l0_2 x43_2).f0), .string ((rd_T24 l0_2 x43_2).f1), .slice A293_2 ((rd_T24 l0_2 x43_2).f2).length c293_2] 24 (0, 0))) := ⟨by (with_reducible repeat (first | refine kN ?_ _ | refine kD ?_ | refine kA ?_ _)); refine kR ?_ NB294_301.out _; (with_reducible repeat (first | refine kN ?_ _ | refine kD ?_ | refine kA ?_ _)); refine kR ?_ NB294_301.out _; (with_reducible repeat (first | refine kN ?_ _ | refine kD ?_ | refine kA ?_ _)); refine kR ?_ NB294_301.out _; (with_reducible repeat (first | refine kN ?_ _ | refine kD ?_ | refine kA ?_ _)); exact BK294.out⟩
          have n3_ : As ((((w31.setCell ⟨gb301, 0, none⟩ (.string t295)).setCell ⟨gb301, 1, none⟩ (.string t296)).setCell ⟨gb301, 2, none⟩ (.slice Ao35 t297.length co35)).heap[gb301]? = some (.cells #[.string t295, .string t296, .slice Ao35 t297.length co35] 24 (0, 0))) := ⟨by (with_reducible repeat (first | refine kN ?_ _ | refine kD ?_ | refine kA ?_ _)); refine kP (cs := #[.string t295, .string t296, .slice none 0 0]) ?_ 2 _ rfl; (with_reducible repeat (first | refine kN ?_ _ | refine kD ?_ | refine kA ?_ _)); refine kP (cs := #[.string t295, .string (⟨#[]⟩ : ByteArray), .slice none 0 0]) ?_ 1 _ rfl; (with_reducible repeat (first | refine kN ?_ _ | refine kD ?_ | refine kA ?_ _)); refine kP (cs := #[.string (⟨#[]⟩ : ByteArray), .string (⟨#[]⟩ : ByteArray), .slice none 0 0]) ?_ 0 _ rfl; (with_reducible repeat (first | refine kN ?_ _ | refine kD ?_ | refine kA ?_ _)); exact BK301.out⟩
          have n4_ : As (Below w.heap.size w (((w31.setCell ⟨gb301, 0, none⟩ (.string t295)).setCell ⟨gb301, 1, none⟩ (.string t296)).setCell ⟨gb301, 2, none⟩ (.slice Ao35 t297.length co35))) := ⟨by repeat (first | (with_reducible first | exact HB.out | apply bA | apply bN | apply bD | refine bS ?_ GE288.out | refine bS ?_ GE294.out | refine bS ?_ GE301.out) | exact HB.out)⟩
          (try clear HO299)
          (try clear BK288)
          (try clear BK294)
          (try clear BK301)
          (try clear HB)
          generalize (((w31.setCell ⟨gb301, 0, none⟩ (.string t295)).setCell ⟨gb301, 1, none⟩ (.string t296)).setCell ⟨gb301, 2, none⟩ (.slice Ao35 t297.length co35)) = w47 at n0_ n1_ n2_ n3_ n4_ ⊢
          have HO299 := n0_
          have BK288 := n1_
          have BK294 := n2_
          have BK301 := n3_
          have HB := n4_
          clear n0_ n1_ n2_ n3_ n4_
          have n0_ := As.mk (Kd.R_drew HO299.out)
          have n1_ := As.mk (kD BK288.out)
          have n2_ := As.mk (kD BK294.out)
          have n3_ := As.mk (kD BK301.out)
          have n4_ := As.mk (bD HB.out)
          clear HO299
          clear BK288
          clear BK294
          clear BK301
          clear HB
          have HO299 := n0_
          have BK288 := n1_
          have BK294 := n2_
          have BK301 := n3_
          have HB := n4_
          clear n0_ n1_ n2_ n3_ n4_
          refine start_ (n := 19) (S := fun w' => w'.cell? ⟨gb301, 0, none⟩ = some (.string t295) ∧ w'.cell? ⟨gb301, 1, none⟩ = some (.string t296) ∧ w'.cell? ⟨gb301, 2, none⟩ = some (.slice Ao35 t297.length co35) ∧ w'.cell? ⟨gb294, 0, none⟩ = some (.string ((rd_T24 l0_2 x43_2).f0)) ∧ w'.cell? ⟨gb294, 1, none⟩ = some (.string ((rd_T24 l0_2 x43_2).f1)) ∧ w'.cell? ⟨gb294, 2, none⟩ = some (.slice A293_2 ((rd_T24 l0_2 x43_2).f2).length c293_2)) (ds := []) (upB 19 0) (by kernel_rfl) rfl rfl ⟨(kC BK301.out 0).trans rfl, (kC BK301.out 1).trans rfl, (kC BK301.out 2).trans rfl, (kC BK294.out 0).trans rfl, (kC BK294.out 1).trans rfl, (kC BK294.out 2).trans rfl⟩ (fun hHeld => ?_); refine with_tabW catalog_Check.tab12 catalog_Check.bits12 (fun HT_ HW_ => ?_)
          generalize w47.drew = w48 at HO299 BK288 BK294 BK301 HB hHeld ⊢
          refine sT_ 0 58 HT_ HW_ hHeld (v := ?_) (hy := ?_) (a' := ?_) (ha := ?_) (h := ?_); rotate_left; (rintro w' ⟨s0, s1, s2, s3, s4, s5⟩; go_simp; with_reducible rfl); rotate_left; (simp only [Act.put, zA, zZ, zS, i64_w, i32_w]; rfl)
          refine sT_ 1 59 HT_ HW_ hHeld (v := ?_) (hy := ?_) (a' := ?_) (ha := ?_) (h := ?_); rotate_left; (rintro w' ⟨s0, s1, s2, s3, s4, s5⟩; go_simp; with_reducible rfl); rotate_left; (simp only [Act.put, zA, zZ, zS, i64_w, i32_w]; rfl)
          refine one_ (i := 2) (N := some 60) (upB 19 3) rfl rfl (one_of HT_.out (by kernel_rfl)) (by decide) (fun K hK => ?_)
          refine goes_ Tryz.func40 (by kernel_rfl) rfl #[.agg #[.string t295, .string t296, .slice Ao35 t297.length co35], .agg #[.string ((rd_T24 l0_2 x43_2).f0), .string ((rd_T24 l0_2 x43_2).f1), .slice A293_2 ((rd_T24 l0_2 x43_2).f2).length c293_2]] (by rfl) rfl rfl (by (try simp only [List.map_toArray, List.map_cons, List.map_nil]); first | done | rfl | (simp only [List.length_drop, List.length_take]; rfl)) ?_
          with_reducible refine (catalog_same.calls k2 t295 t296 _ _ t297 ((rd_T24 l0_2 x43_2).f0) ((rd_T24 l0_2 x43_2).f1) _ _ ((rd_T24 l0_2 x43_2).f2) true _ ?side1 ?side2 ?side3 ?side4 A36.out).mono ?_
          (case side1 => repeat (first | exact (Kd.R_reads' HO299.out).2.2 | (with_reducible refine Kd.C_alloc ?_ _) | (with_reducible refine Kd.C_drewN ?_ _) | (with_reducible refine Kd.C_drew ?_)))
          (case side2 => exact (Kd.R_reads' HO299.out).2.1)
          (case side3 => repeat (first | exact (Kd.C_below HR293_2.out HB.out) | (with_reducible refine Kd.C_alloc ?_ _) | (with_reducible refine Kd.C_drewN ?_ _) | (with_reducible refine Kd.C_drew ?_)))
          (case side4 => exact HC293_2.out)
          rintro e w49 ⟨rfl, hb⟩
          refine ⟨_, rfl, ?_⟩
          have n0_ := As.mk (Kd.R_below (by (with_reducible repeat (first | apply Kd.R_alloc | apply Kd.R_drewN | apply Kd.R_drew)); exact HO299.out) hb)
          have n1_ := As.mk (kB (g := gb288) (o := .cells #[.int .i64 a0_0, .string a0_1, .slice (some ad293) l0_2.length c0_2, .slice A0_3 l0_3.length c0_3] 37 (0, 0)) (by (with_reducible repeat (first | refine kN ?_ _ | refine kD ?_ | refine kA ?_ _)); exact BK288.out) hb)
          have n2_ := As.mk (kB (g := gb294) (o := .cells #[.string ((rd_T24 l0_2 x43_2).f0), .string ((rd_T24 l0_2 x43_2).f1), .slice A293_2 ((rd_T24 l0_2 x43_2).f2).length c293_2] 24 (0, 0)) (by (with_reducible repeat (first | refine kN ?_ _ | refine kD ?_ | refine kA ?_ _)); exact BK294.out) hb)
          have n3_ := As.mk (kB (g := gb301) (o := .cells #[.string t295, .string t296, .slice Ao35 t297.length co35] 24 (0, 0)) (by (with_reducible repeat (first | refine kN ?_ _ | refine kD ?_ | refine kA ?_ _)); exact BK301.out) hb)
          have n4_ := As.mk (bT (by repeat (first | (with_reducible first | exact HB.out | apply bA | apply bN | apply bD | refine bS ?_ GE288.out | refine bS ?_ GE294.out | refine bS ?_ GE301.out) | exact HB.out)) hb)
          clear HO299
          clear BK288
          clear BK294
          clear BK301
          clear HB
          have HO299 := n0_
          have BK288 := n1_
          have BK294 := n2_
          have BK301 := n3_
          have HB := n4_
          clear n0_ n1_ n2_ n3_ n4_
          (try clear hb)
          (try clear hb2)
          (try clear hk)
          (try clear hi)
          refine hK.out _ _ ⟨(kC BK301.out 0).trans rfl, (kC BK301.out 1).trans rfl, (kC BK301.out 2).trans rfl, (kC BK294.out 0).trans rfl, (kC BK294.out 1).trans rfl, (kC BK294.out 2).trans rfl⟩ (fun hHeld => ?_)
          clear hK K
          refine norm_ (a' := ?_) ?_ ?_
          rotate_left
          · show Act.put _ (some 60) _ = _
            simp only [Act.put, zA, zZ, zS, i64_w, i32_w]
            rfl
          refine sP_ 3 61 HT_ (v := ?_) (hy := ?_) (a' := ?_) (ha := ?_) (h := ?_); rotate_left; (intro w'; go_simp; with_reducible rfl); rotate_left; (simp only [Act.put, zA, zZ, zS, i64_w, i32_w]; rfl)
          refine sP_ 4 62 HT_ (v := ?_) (hy := ?_) (a' := ?_) (ha := ?_) (h := ?_); rotate_left; (intro w'; go_simp; with_reducible rfl); rotate_left; (simp only [Act.put, zA, zZ, zS, i64_w, i32_w]; rfl)
          refine sP_ 5 63 HT_ (v := ?_) (hy := ?_) (a' := ?_) (ha := ?_) (h := ?_); rotate_left; (intro w'; go_simp; with_reducible rfl); rotate_left; (simp only [Act.put, zA, zZ, zS, i64_w, i32_w]; rfl)
          refine sP_ 6 64 HT_ (v := ?_) (hy := ?_) (a' := ?_) (ha := ?_) (h := ?_); rotate_left; (intro w'; go_simp; with_reducible rfl); rotate_left; (simp only [Act.put, zA, zZ, zS, i64_w, i32_w]; rfl)
          refine sP_ 7 65 HT_ (v := ?_) (hy := ?_) (a' := ?_) (ha := ?_) (h := ?_); rotate_left; (intro w'; go_simp; with_reducible rfl); rotate_left; (simp only [Act.put, zA, zZ, zS, i64_w, i32_w]; rfl)
          refine sN_ 8 66 HT_ (a' := ?_) (ha := ?_) (h := ?_); rotate_left; (simp only [Act.put, zA, zZ, zS, i64_w, i32_w]; rfl)
          refine sN_ 9 67 HT_ (a' := ?_) (ha := ?_) (h := ?_); rotate_left; (simp only [Act.put, zA, zZ, zS, i64_w, i32_w]; rfl)
          refine sN_ 10 68 HT_ (a' := ?_) (ha := ?_) (h := ?_); rotate_left; (simp only [Act.put, zA, zZ, zS, i64_w, i32_w]; rfl)
          refine sN_ 11 69 HT_ (a' := ?_) (ha := ?_) (h := ?_); rotate_left; (simp only [Act.put, zA, zZ, zS, i64_w, i32_w]; rfl)
          refine sN_ 12 70 HT_ (a' := ?_) (ha := ?_) (h := ?_); rotate_left; (simp only [Act.put, zA, zZ, zS, i64_w, i32_w]; rfl)
          refine sN_ 13 71 HT_ (a' := ?_) (ha := ?_) (h := ?_); rotate_left; (simp only [Act.put, zA, zZ, zS, i64_w, i32_w]; rfl)
          refine sN_ 14 72 HT_ (a' := ?_) (ha := ?_) (h := ?_); rotate_left; (simp only [Act.put, zA, zZ, zS, i64_w, i32_w]; rfl)
          refine sN_ 15 73 HT_ (a' := ?_) (ha := ?_) (h := ?_); rotate_left; (simp only [Act.put, zA, zZ, zS, i64_w, i32_w]; rfl)
          refine sP_ 16 74 HT_ (v := ?_) (hy := ?_) (a' := ?_) (ha := ?_) (h := ?_); rotate_left; (intro w'; go_simp; with_reducible rfl); rotate_left; (simp only [Act.put, zA, zZ, zS, i64_w, i32_w]; rfl)
          refine sP_ 17 75 HT_ (v := ?_) (hy := ?_) (a' := ?_) (ha := ?_) (h := ?_); rotate_left; (intro w'; go_simp; with_reducible rfl); rotate_left; (simp only [Act.put, zA, zZ, zS, i64_w, i32_w]; rfl)
          refine sP_ 18 57 HT_ (v := ?_) (hy := ?_) (a' := ?_) (ha := ?_) (h := ?_); rotate_left; (intro w'; go_simp; with_reducible rfl); rotate_left; (simp only [Act.put, zA, zZ, zS, i64_w, i32_w]; rfl)
          refine done_ (done_of HT_.out (by kernel_rfl)) ?_
          try go_wp2
          go_meet
          case rel => exact ⟨_, (false), (by first | rfl | (simp; done) | (simp [*]; done)), H', ⟨by have := HJ2.out; have := HK2.out; first | omega | exact Nat.le_refl _⟩, ⟨by (with_reducible repeat (first | apply Kd.R_alloc | apply Kd.R_drewN | apply Kd.R_drew)); exact HO299.out⟩, ⟨by (with_reducible repeat (first | refine kN ?_ _ | refine kD ?_ | refine kA ?_ _)); exact BK288.out⟩, ⟨by (with_reducible repeat (first | refine kN ?_ _ | refine kD ?_ | refine kA ?_ _)); exact BK294.out⟩, ⟨by (with_reducible repeat (first | refine kN ?_ _ | refine kD ?_ | refine kA ?_ _)); exact BK301.out⟩, ⟨by repeat (first | (with_reducible first | exact HB.out | apply bA | apply bN | apply bD | refine bS ?_ GE288.out | refine bS ?_ GE294.out | refine bS ?_ GE301.out) | exact HB.out)⟩⟩
        rw [if_pos c38] at H
        have c38b0 : decide (0 < x43_2) = true := decide_eq_true c38
        clear c38
        (first | rw [c38b0] | (simp only [i64_w, i32_w]; rw [c38b0]) | skip)
        obtain ⟨ji39, hji39⟩ : ∃ j_ : Int, (wrap64 (x43_2 - 1)) = j_ := ⟨_, rfl⟩
        replace H : (if 0 ≤ (ji39) then (if (ji39) < (l0_2.length : Int) then ((resource_Less.f ((rd_T24 l0_2 x43_2).f0) ((rd_T24 l0_2 x43_2).f1) ((rd_T24 l0_2 x43_2).f2) ((rd_T24 l0_2 (ji39)).f0) ((rd_T24 l0_2 (ji39)).f1) ((rd_T24 l0_2 (ji39)).f2)).bind fun t304 => (catalog_Check.j2 k2 x43_2 l0_2 (l0_2.length : Int) x43_2 t304 a0_0 a0_1 l0_2 l0_3 ((rd_T24 l0_2 x43_2).f0) ((rd_T24 l0_2 x43_2).f1) ((rd_T24 l0_2 x43_2).f2))) else (none)) else (none)) = some r := by first | (rw [hji39] at H; exact H) | (simp only [hji39] at H ⊢; exact H)
        (try rw [hji39] at A36)
        have hji39w : (IntKind.i64.wrap (x43_2 - 1)) = ji39 := (i64_w _).trans hji39
        by_cases c40 : 0 ≤ (ji39)
        rotate_left
        · rw [if_neg c40] at H
          exact absurd H (by simp)
        rw [if_pos c40] at H
        have c40b0 : decide (0 ≤ (ji39)) = true := decide_eq_true c40
        clear c40
        by_cases c41 : (ji39) < (l0_2.length : Int)
        rotate_left
        · rw [if_neg c41] at H
          exact absurd H (by simp)
        rw [if_pos c41] at H
        have c41b0 : decide ((ji39) < (l0_2.length : Int)) = true := decide_eq_true c41
        clear c41
        replace H := Option.bind_eq_some_iff.mp H
        obtain ⟨t304, A420, H⟩ := H
        replace H : (catalog_Check.j2 k2 x43_2 l0_2 (l0_2.length : Int) x43_2 t304 a0_0 a0_1 l0_2 l0_3 ((rd_T24 l0_2 x43_2).f0) ((rd_T24 l0_2 x43_2).f1) ((rd_T24 l0_2 x43_2).f2)) = some r := H
        have A42 := As.mk A420
        clear A420
        have H' := As.mk H
        clear H
        try go_wp2
        have n0_ : As (Kd.R k31 31 (((w31.setCell ⟨gb301, 0, none⟩ (.string t295)).setCell ⟨gb301, 1, none⟩ (.string t296)).setCell ⟨gb301, 2, none⟩ (.slice Ao35 t297.length co35)) w.heap.size (fun _ => True) (.slice Ao35 t297.length co35) t297) := ⟨by (with_reducible repeat (first | apply Kd.R_alloc | apply Kd.R_drewN | apply Kd.R_drew)); exact Kd.R_mono (Kd.R_far (p := ⟨gb301, 2, none⟩) (Kd.R_far (p := ⟨gb301, 1, none⟩) (Kd.R_far (p := ⟨gb301, 0, none⟩) (Kd.R_types HO299.out BK301.out (by decide)) (fun _ hk => hk.2) (.string t295)) (fun _ hk => hk.2) (.string t296)) (fun _ hk => hk.2) (.slice Ao35 t297.length co35)) (fun _ hk => trivial)⟩
        have n1_ : As ((((w31.setCell ⟨gb301, 0, none⟩ (.string t295)).setCell ⟨gb301, 1, none⟩ (.string t296)).setCell ⟨gb301, 2, none⟩ (.slice Ao35 t297.length co35)).heap[gb288]? = some (.cells #[.int .i64 a0_0, .string a0_1, .slice (some ad293) l0_2.length c0_2, .slice A0_3 l0_3.length c0_3] 37 (0, 0))) := ⟨by (with_reducible repeat (first | refine kN ?_ _ | refine kD ?_ | refine kA ?_ _)); refine kR ?_ NB288_301.out _; (with_reducible repeat (first | refine kN ?_ _ | refine kD ?_ | refine kA ?_ _)); refine kR ?_ NB288_301.out _; (with_reducible repeat (first | refine kN ?_ _ | refine kD ?_ | refine kA ?_ _)); refine kR ?_ NB288_301.out _; (with_reducible repeat (first | refine kN ?_ _ | refine kD ?_ | refine kA ?_ _)); exact BK288.out⟩
        have n2_ : As ((((w31.setCell ⟨gb301, 0, none⟩ (.string t295)).setCell ⟨gb301, 1, none⟩ (.string t296)).setCell ⟨gb301, 2, none⟩ (.slice Ao35 t297.length co35)).heap[gb294]? = some (.cells #[.string ((rd_T24 l0_2 x43_2).f0), .string ((rd_T24 l0_2 x43_2).f1), .slice A293_2 ((rd_T24 l0_2 x43_2).f2).length c293_2] 24 (0, 0))) := ⟨by (with_reducible repeat (first | refine kN ?_ _ | refine kD ?_ | refine kA ?_ _)); refine kR ?_ NB294_301.out _; (with_reducible repeat (first | refine kN ?_ _ | refine kD ?_ | refine kA ?_ _)); refine kR ?_ NB294_301.out _; (with_reducible repeat (first | refine kN ?_ _ | refine kD ?_ | refine kA ?_ _)); refine kR ?_ NB294_301.out _; (with_reducible repeat (first | refine kN ?_ _ | refine kD ?_ | refine kA ?_ _)); exact BK294.out⟩
        have n3_ : As ((((w31.setCell ⟨gb301, 0, none⟩ (.string t295)).setCell ⟨gb301, 1, none⟩ (.string t296)).setCell ⟨gb301, 2, none⟩ (.slice Ao35 t297.length co35)).heap[gb301]? = some (.cells #[.string t295, .string t296, .slice Ao35 t297.length co35] 24 (0, 0))) := ⟨by (with_reducible repeat (first | refine kN ?_ _ | refine kD ?_ | refine kA ?_ _)); refine kP (cs := #[.string t295, .string t296, .slice none 0 0]) ?_ 2 _ rfl; (with_reducible repeat (first | refine kN ?_ _ | refine kD ?_ | refine kA ?_ _)); refine kP (cs := #[.string t295, .string (⟨#[]⟩ : ByteArray), .slice none 0 0]) ?_ 1 _ rfl; (with_reducible repeat (first | refine kN ?_ _ | refine kD ?_ | refine kA ?_ _)); refine kP (cs := #[.string (⟨#[]⟩ : ByteArray), .string (⟨#[]⟩ : ByteArray), .slice none 0 0]) ?_ 0 _ rfl; (with_reducible repeat (first | refine kN ?_ _ | refine kD ?_ | refine kA ?_ _)); exact BK301.out⟩
        have n4_ : As (Below w.heap.size w (((w31.setCell ⟨gb301, 0, none⟩ (.string t295)).setCell ⟨gb301, 1, none⟩ (.string t296)).setCell ⟨gb301, 2, none⟩ (.slice Ao35 t297.length co35))) := ⟨by repeat (first | (with_reducible first | exact HB.out | apply bA | apply bN | apply bD | refine bS ?_ GE288.out | refine bS ?_ GE294.out | refine bS ?_ GE301.out) | exact HB.out)⟩
        (try clear HO299)
        (try clear BK288)
        (try clear BK294)
        (try clear BK301)
        (try clear HB)
        generalize (((w31.setCell ⟨gb301, 0, none⟩ (.string t295)).setCell ⟨gb301, 1, none⟩ (.string t296)).setCell ⟨gb301, 2, none⟩ (.slice Ao35 t297.length co35)) = w43 at n0_ n1_ n2_ n3_ n4_ ⊢
        have HO299 := n0_
        have BK288 := n1_
        have BK294 := n2_
        have BK301 := n3_
        have HB := n4_
        clear n0_ n1_ n2_ n3_ n4_
        have n0_ := As.mk (Kd.R_drew HO299.out)
        have n1_ := As.mk (kD BK288.out)
        have n2_ := As.mk (kD BK294.out)
        have n3_ := As.mk (kD BK301.out)
        have n4_ := As.mk (bD HB.out)
        clear HO299
        clear BK288
        clear BK294
        clear BK301
        clear HB
        have HO299 := n0_
        have BK288 := n1_
        have BK294 := n2_
        have BK301 := n3_
        have HB := n4_
        clear n0_ n1_ n2_ n3_ n4_
        have p303 : 0 ≤ ((ji39) : Int) := of_decide_eq_true (by first | (with_reducible assumption) | assumption)
        have q303 : (ji39) < (l0_2.length : Int) := of_decide_eq_true (by first | (with_reducible assumption) | assumption)
        obtain ⟨ad303, A303_2, c303_2, e303, hx303_0, hx303_1, hx303_2, hl303_2, hi303_2⟩ := at_T24 HR0_2.out (ji39) p303 q303
        have hw303_2 := hx303_2
        have hw303_1 := hx303_1
        have hw303_0 := hx303_0
        obtain rfl : ad293 = ad303 := (by injection e303)
        replace hx303_0 := (HB.out.cell (World.block_lt_of_cell? w _ hx303_0)).trans hx303_0
        replace hx303_1 := (HB.out.cell (World.block_lt_of_cell? w _ hx303_1)).trans hx303_1
        replace hx303_2 := (HB.out.cell (World.block_lt_of_cell? w _ hx303_2)).trans hx303_2
        have HR303_2 := As.mk hi303_2
        have HC303_2 := As.mk hl303_2
        clear hi303_2 hl303_2
        replace p303 := eq_true p303
        replace q303 := eq_true q303
        refine start_ (n := 19) (S := fun w' => w'.cell? ⟨gb301, 0, none⟩ = some (.string t295) ∧ w'.cell? ⟨gb301, 1, none⟩ = some (.string t296) ∧ w'.cell? ⟨gb301, 2, none⟩ = some (.slice Ao35 t297.length co35) ∧ w'.cell? ⟨gb294, 0, none⟩ = some (.string ((rd_T24 l0_2 x43_2).f0)) ∧ w'.cell? ⟨gb294, 1, none⟩ = some (.string ((rd_T24 l0_2 x43_2).f1)) ∧ w'.cell? ⟨gb294, 2, none⟩ = some (.slice A293_2 ((rd_T24 l0_2 x43_2).f2).length c293_2) ∧ w'.cell? ⟨gb288, 0, none⟩ = some (.int .i64 a0_0) ∧ w'.cell? ⟨gb288, 1, none⟩ = some (.string a0_1) ∧ w'.cell? ⟨gb288, 2, none⟩ = some (.slice (some ad293) l0_2.length c0_2) ∧ w'.cell? ⟨gb288, 3, none⟩ = some (.slice A0_3 l0_3.length c0_3) ∧ w'.cell? (ad293.add (((ji39)).toNat * 3)) = some (.string ((rd_T24 l0_2 (ji39)).f0)) ∧ w'.cell? ⟨(ad293.add (((ji39)).toNat * 3)).block, (ad293.add (((ji39)).toNat * 3)).off + 1, none⟩ = some (.string ((rd_T24 l0_2 (ji39)).f1)) ∧ w'.cell? ⟨(ad293.add (((ji39)).toNat * 3)).block, (ad293.add (((ji39)).toNat * 3)).off + 2, none⟩ = some (.slice A303_2 ((rd_T24 l0_2 (ji39)).f2).length c303_2)) (ds := []) (upB 19 0) (by kernel_rfl) rfl rfl ⟨(kC BK301.out 0).trans rfl, (kC BK301.out 1).trans rfl, (kC BK301.out 2).trans rfl, (kC BK294.out 0).trans rfl, (kC BK294.out 1).trans rfl, (kC BK294.out 2).trans rfl, (kC BK288.out 0).trans rfl, (kC BK288.out 1).trans rfl, (kC BK288.out 2).trans rfl, (kC BK288.out 3).trans rfl, ((HB.out.cell (World.block_lt_of_cell? w _ hw303_0)).trans hw303_0), ((HB.out.cell (World.block_lt_of_cell? w _ hw303_1)).trans hw303_1), ((HB.out.cell (World.block_lt_of_cell? w _ hw303_2)).trans hw303_2)⟩ (fun hHeld => ?_); refine with_tabW catalog_Check.tab12 catalog_Check.bits12 (fun HT_ HW_ => ?_)
        generalize w43.drew = w44 at HO299 BK288 BK294 BK301 HB HR303_2 hx303_0 hx303_1 hx303_2 hHeld ⊢
        refine sT_ 0 58 HT_ HW_ hHeld (v := ?_) (hy := ?_) (a' := ?_) (ha := ?_) (h := ?_); rotate_left; (rintro w' ⟨s0, s1, s2, s3, s4, s5, s6, s7, s8, s9, s10, s11, s12⟩; go_simp; with_reducible rfl); rotate_left; (simp only [Act.put, zA, zZ, zS, i64_w, i32_w]; rfl)
        refine sT_ 1 59 HT_ HW_ hHeld (v := ?_) (hy := ?_) (a' := ?_) (ha := ?_) (h := ?_); rotate_left; (rintro w' ⟨s0, s1, s2, s3, s4, s5, s6, s7, s8, s9, s10, s11, s12⟩; go_simp; with_reducible rfl); rotate_left; (simp only [Act.put, zA, zZ, zS, i64_w, i32_w]; rfl)
        refine one_ (i := 2) (N := some 60) (upB 19 3) rfl rfl (one_of HT_.out (by kernel_rfl)) (by decide) (fun K hK => ?_)
        refine goes_ Tryz.func40 (by kernel_rfl) rfl #[.agg #[.string t295, .string t296, .slice Ao35 t297.length co35], .agg #[.string ((rd_T24 l0_2 x43_2).f0), .string ((rd_T24 l0_2 x43_2).f1), .slice A293_2 ((rd_T24 l0_2 x43_2).f2).length c293_2]] (by rfl) rfl rfl (by (try simp only [List.map_toArray, List.map_cons, List.map_nil]); first | done | rfl | (simp only [List.length_drop, List.length_take]; rfl)) ?_
        with_reducible refine (catalog_same.calls k2 t295 t296 _ _ t297 ((rd_T24 l0_2 x43_2).f0) ((rd_T24 l0_2 x43_2).f1) _ _ ((rd_T24 l0_2 x43_2).f2) true _ ?side1 ?side2 ?side3 ?side4 A36.out).mono ?_
        (case side1 => repeat (first | exact (Kd.R_reads' HO299.out).2.2 | (with_reducible refine Kd.C_alloc ?_ _) | (with_reducible refine Kd.C_drewN ?_ _) | (with_reducible refine Kd.C_drew ?_)))
        (case side2 => exact (Kd.R_reads' HO299.out).2.1)
        (case side3 => repeat (first | exact (Kd.C_below HR293_2.out HB.out) | (with_reducible refine Kd.C_alloc ?_ _) | (with_reducible refine Kd.C_drewN ?_ _) | (with_reducible refine Kd.C_drew ?_)))
        (case side4 => exact HC293_2.out)
        rintro e w45 ⟨rfl, hb⟩
        refine ⟨_, rfl, ?_⟩
        have n0_ := As.mk (Kd.R_below (by (with_reducible repeat (first | apply Kd.R_alloc | apply Kd.R_drewN | apply Kd.R_drew)); exact HO299.out) hb)
        have n1_ := As.mk (kB (g := gb288) (o := .cells #[.int .i64 a0_0, .string a0_1, .slice (some ad293) l0_2.length c0_2, .slice A0_3 l0_3.length c0_3] 37 (0, 0)) (by (with_reducible repeat (first | refine kN ?_ _ | refine kD ?_ | refine kA ?_ _)); exact BK288.out) hb)
        have n2_ := As.mk (kB (g := gb294) (o := .cells #[.string ((rd_T24 l0_2 x43_2).f0), .string ((rd_T24 l0_2 x43_2).f1), .slice A293_2 ((rd_T24 l0_2 x43_2).f2).length c293_2] 24 (0, 0)) (by (with_reducible repeat (first | refine kN ?_ _ | refine kD ?_ | refine kA ?_ _)); exact BK294.out) hb)
        have n3_ := As.mk (kB (g := gb301) (o := .cells #[.string t295, .string t296, .slice Ao35 t297.length co35] 24 (0, 0)) (by (with_reducible repeat (first | refine kN ?_ _ | refine kD ?_ | refine kA ?_ _)); exact BK301.out) hb)
        have n4_ := As.mk (bT (by repeat (first | (with_reducible first | exact HB.out | apply bA | apply bN | apply bD | refine bS ?_ GE288.out | refine bS ?_ GE294.out | refine bS ?_ GE301.out) | exact HB.out)) hb)
        clear HO299
        clear BK288
        clear BK294
        clear BK301
        clear HB
        have HO299 := n0_
        have BK288 := n1_
        have BK294 := n2_
        have BK301 := n3_
        have HB := n4_
        clear n0_ n1_ n2_ n3_ n4_
        (try clear hb)
        (try clear hb2)
        (try clear hk)
        (try clear hi)
        refine hK.out _ _ ⟨(kC BK301.out 0).trans rfl, (kC BK301.out 1).trans rfl, (kC BK301.out 2).trans rfl, (kC BK294.out 0).trans rfl, (kC BK294.out 1).trans rfl, (kC BK294.out 2).trans rfl, (kC BK288.out 0).trans rfl, (kC BK288.out 1).trans rfl, (kC BK288.out 2).trans rfl, (kC BK288.out 3).trans rfl, ((HB.out.cell (World.block_lt_of_cell? w _ hw303_0)).trans hw303_0), ((HB.out.cell (World.block_lt_of_cell? w _ hw303_1)).trans hw303_1), ((HB.out.cell (World.block_lt_of_cell? w _ hw303_2)).trans hw303_2)⟩ (fun hHeld => ?_)
        clear hK K
        refine norm_ (a' := ?_) ?_ ?_
        rotate_left
        · show Act.put _ (some 60) _ = _
          simp only [Act.put, zA, zZ, zS, i64_w, i32_w]
          rfl
        refine sP_ 3 61 HT_ (v := ?_) (hy := ?_) (a' := ?_) (ha := ?_) (h := ?_); rotate_left; (intro w'; go_simp; with_reducible rfl); rotate_left; (simp only [Act.put, zA, zZ, zS, i64_w, i32_w]; rfl)
        refine sP_ 4 62 HT_ (v := ?_) (hy := ?_) (a' := ?_) (ha := ?_) (h := ?_); rotate_left; (intro w'; go_simp; with_reducible rfl); rotate_left; (simp only [Act.put, zA, zZ, zS, i64_w, i32_w]; rfl)
        refine sP_ 5 63 HT_ (v := ?_) (hy := ?_) (a' := ?_) (ha := ?_) (h := ?_); rotate_left; (intro w'; go_simp; with_reducible rfl); rotate_left; (simp only [Act.put, zA, zZ, zS, i64_w, i32_w]; rfl)
        refine sP_ 6 64 HT_ (v := ?_) (hy := ?_) (a' := ?_) (ha := ?_) (h := ?_); rotate_left; (intro w'; go_simp; with_reducible rfl); rotate_left; (simp only [Act.put, zA, zZ, zS, i64_w, i32_w]; rfl)
        refine sP_ 7 65 HT_ (v := ?_) (hy := ?_) (a' := ?_) (ha := ?_) (h := ?_); rotate_left; (intro w'; go_simp; with_reducible rfl); rotate_left; (simp only [Act.put, zA, zZ, zS, i64_w, i32_w]; rfl)
        refine sT_ 8 66 HT_ HW_ hHeld (v := ?_) (hy := ?_) (a' := ?_) (ha := ?_) (h := ?_); rotate_left; (rintro w' ⟨s0, s1, s2, s3, s4, s5, s6, s7, s8, s9, s10, s11, s12⟩; go_simp; with_reducible rfl); rotate_left; (simp only [Act.put, zA, zZ, zS, i64_w, i32_w]; rfl)
        refine sP_ 9 67 HT_ (v := ?_) (hy := ?_) (a' := ?_) (ha := ?_) (h := ?_); rotate_left; (intro w'; go_simp; with_reducible rfl); rotate_left; (simp only [Act.put, zA, zZ, zS, i64_w, i32_w]; rfl)
        refine sT_ 10 68 HT_ HW_ hHeld (v := ?_) (hy := ?_) (a' := ?_) (ha := ?_) (h := ?_); rotate_left; (rintro w' ⟨s0, s1, s2, s3, s4, s5, s6, s7, s8, s9, s10, s11, s12⟩; go_simp; with_reducible rfl); rotate_left; (simp only [Act.put, zA, zZ, zS, i64_w, i32_w]; rfl)
        refine sP_ 11 69 HT_ (v := ?_) (hy := ?_) (a' := ?_) (ha := ?_) (h := ?_); rotate_left; (intro w'; go_simp; with_reducible rfl); rotate_left; (simp only [Act.put, zA, zZ, zS, i64_w, i32_w]; rfl)
        refine sP_ 12 70 HT_ (v := ?_) (hy := ?_) (a' := ?_) (ha := ?_) (h := ?_); rotate_left; (intro w'; go_simp; with_reducible rfl); rotate_left; (simp only [Act.put, zA, zZ, zS, i64_w, i32_w]; rfl)
        refine sP_ 13 71 HT_ (v := ?_) (hy := ?_) (a' := ?_) (ha := ?_) (h := ?_); rotate_left; (intro w'; go_simp; with_reducible rfl); rotate_left; (simp only [Act.put, zA, zZ, zS, i64_w, i32_w]; rfl)
        refine sT_ 14 72 HT_ HW_ hHeld (v := ?_) (hy := ?_) (a' := ?_) (ha := ?_) (h := ?_); rotate_left; (rintro w' ⟨s0, s1, s2, s3, s4, s5, s6, s7, s8, s9, s10, s11, s12⟩; go_simp; with_reducible rfl); rotate_left; (simp only [Act.put, zA, zZ, zS, i64_w, i32_w]; rfl)
        refine one_ (i := 15) (N := some 73) (upB 19 16) rfl rfl (one_of HT_.out (by kernel_rfl)) (by decide) (fun K hK => ?_)
        refine goes_ Tryz.func41 (by kernel_rfl) rfl #[.agg #[.string ((rd_T24 l0_2 x43_2).f0), .string ((rd_T24 l0_2 x43_2).f1), .slice A293_2 ((rd_T24 l0_2 x43_2).f2).length c293_2], .agg #[.string ((rd_T24 l0_2 (ji39)).f0), .string ((rd_T24 l0_2 (ji39)).f1), .slice A303_2 ((rd_T24 l0_2 (ji39)).f2).length c303_2]] (by rfl) rfl rfl (by (try simp only [List.map_toArray, List.map_cons, List.map_nil]); first | done | (simp only [hji39]; rfl) | rfl | (simp only [List.length_drop, List.length_take]; rfl)) ?_
        with_reducible refine (resource_Less.calls ((rd_T24 l0_2 x43_2).f0) ((rd_T24 l0_2 x43_2).f1) _ _ ((rd_T24 l0_2 x43_2).f2) ((rd_T24 l0_2 (ji39)).f0) ((rd_T24 l0_2 (ji39)).f1) _ _ ((rd_T24 l0_2 (ji39)).f2) t304 _ ?side1 ?side2 ?side3 ?side4 A42.out).mono ?_
        (case side1 => repeat (first | exact (Kd.C_below HR293_2.out HB.out) | (with_reducible refine Kd.C_alloc ?_ _) | (with_reducible refine Kd.C_drewN ?_ _) | (with_reducible refine Kd.C_drew ?_)))
        (case side2 => exact HC293_2.out)
        (case side3 => repeat (first | exact (Kd.C_below HR303_2.out HB.out) | (with_reducible refine Kd.C_alloc ?_ _) | (with_reducible refine Kd.C_drewN ?_ _) | (with_reducible refine Kd.C_drew ?_)))
        (case side4 => exact HC303_2.out)
        rintro e w46 ⟨rfl, hb⟩
        refine ⟨_, rfl, ?_⟩
        have n0_ := As.mk (Kd.R_below (by (with_reducible repeat (first | apply Kd.R_alloc | apply Kd.R_drewN | apply Kd.R_drew)); exact HO299.out) hb)
        have n1_ := As.mk (kB (g := gb288) (o := .cells #[.int .i64 a0_0, .string a0_1, .slice (some ad293) l0_2.length c0_2, .slice A0_3 l0_3.length c0_3] 37 (0, 0)) (by (with_reducible repeat (first | refine kN ?_ _ | refine kD ?_ | refine kA ?_ _)); exact BK288.out) hb)
        have n2_ := As.mk (kB (g := gb294) (o := .cells #[.string ((rd_T24 l0_2 x43_2).f0), .string ((rd_T24 l0_2 x43_2).f1), .slice A293_2 ((rd_T24 l0_2 x43_2).f2).length c293_2] 24 (0, 0)) (by (with_reducible repeat (first | refine kN ?_ _ | refine kD ?_ | refine kA ?_ _)); exact BK294.out) hb)
        have n3_ := As.mk (kB (g := gb301) (o := .cells #[.string t295, .string t296, .slice Ao35 t297.length co35] 24 (0, 0)) (by (with_reducible repeat (first | refine kN ?_ _ | refine kD ?_ | refine kA ?_ _)); exact BK301.out) hb)
        have n4_ := As.mk (bT (by repeat (first | (with_reducible first | exact HB.out | apply bA | apply bN | apply bD | refine bS ?_ GE288.out | refine bS ?_ GE294.out | refine bS ?_ GE301.out) | exact HB.out)) hb)
        clear HO299
        clear BK288
        clear BK294
        clear BK301
        clear HB
        have HO299 := n0_
        have BK288 := n1_
        have BK294 := n2_
        have BK301 := n3_
        have HB := n4_
        clear n0_ n1_ n2_ n3_ n4_
        (try clear hb)
        (try clear hb2)
        (try clear hk)
        (try clear hi)
        refine hK.out _ _ ⟨(kC BK301.out 0).trans rfl, (kC BK301.out 1).trans rfl, (kC BK301.out 2).trans rfl, (kC BK294.out 0).trans rfl, (kC BK294.out 1).trans rfl, (kC BK294.out 2).trans rfl, (kC BK288.out 0).trans rfl, (kC BK288.out 1).trans rfl, (kC BK288.out 2).trans rfl, (kC BK288.out 3).trans rfl, ((HB.out.cell (World.block_lt_of_cell? w _ hw303_0)).trans hw303_0), ((HB.out.cell (World.block_lt_of_cell? w _ hw303_1)).trans hw303_1), ((HB.out.cell (World.block_lt_of_cell? w _ hw303_2)).trans hw303_2)⟩ (fun hHeld => ?_)
        clear hK K
        refine norm_ (a' := ?_) ?_ ?_
        rotate_left
        · show Act.put _ (some 73) _ = _
          simp only [Act.put, zA, zZ, zS, i64_w, i32_w]
          rfl
        refine sP_ 16 74 HT_ (v := ?_) (hy := ?_) (a' := ?_) (ha := ?_) (h := ?_); rotate_left; (intro w'; go_simp; with_reducible rfl); rotate_left; (simp only [Act.put, zA, zZ, zS, i64_w, i32_w]; rfl)
        refine sP_ 17 75 HT_ (v := ?_) (hy := ?_) (a' := ?_) (ha := ?_) (h := ?_); rotate_left; (intro w'; go_simp; with_reducible rfl); rotate_left; (simp only [Act.put, zA, zZ, zS, i64_w, i32_w]; rfl)
        refine sP_ 18 57 HT_ (v := ?_) (hy := ?_) (a' := ?_) (ha := ?_) (h := ?_); rotate_left; (intro w'; go_simp; with_reducible rfl); rotate_left; (simp only [Act.put, zA, zZ, zS, i64_w, i32_w]; rfl)
        refine done_ (done_of HT_.out (by kernel_rfl)) ?_
        try go_wp2
        go_meet
        case rel => exact ⟨_, (t304), (by first | rfl | (simp; done) | (simp [*]; done)), H', ⟨by have := HJ2.out; have := HK2.out; first | omega | exact Nat.le_refl _⟩, ⟨by (with_reducible repeat (first | apply Kd.R_alloc | apply Kd.R_drewN | apply Kd.R_drew)); exact HO299.out⟩, ⟨by (with_reducible repeat (first | refine kN ?_ _ | refine kD ?_ | refine kA ?_ _)); exact BK288.out⟩, ⟨by (with_reducible repeat (first | refine kN ?_ _ | refine kD ?_ | refine kA ?_ _)); exact BK294.out⟩, ⟨by (with_reducible repeat (first | refine kN ?_ _ | refine kD ?_ | refine kA ?_ _)); exact BK301.out⟩, ⟨by repeat (first | (with_reducible first | exact HB.out | apply bA | apply bN | apply bD | refine bS ?_ GE288.out | refine bS ?_ GE294.out | refine bS ?_ GE301.out) | exact HB.out)⟩⟩
       case rest =>
        clear HC26
        try clear c2
        try clear p2
        try clear c3
        try clear p3
        try clear q3
        try clear hx3
        try clear c4
        try clear c29
        try clear c30
        try clear p30
        try clear q30
        try clear hx30
        try clear c37
        try clear c38
        try clear c38b0
        try clear c40
        try clear c41
        try clear hx303_0
        try clear hx303_1
        try clear hx303_2
        try clear p303
        try clear q303
        obtain ⟨kq, x57_25, rfl, HA, HJ25, HO_302002, BK288, BK294, BK301, HB⟩ := hcut
        cases kq with
        | zero => exact absurd HA.out (by simp [catalog_Check.j2])
        | succ kj25 =>
         have H := HA.out
         clear HA
         simp only [catalog_Check.j2] at H
         by_cases c53 : x57_25 = true
         · subst c53
           have H1 : (some 70) = some r := by rw [if_pos rfl] at H; exact H
           clear H
           have H := H1
           clear H1
           obtain rfl := Option.some.inj H
           go_wp2
           go_ret
           exact ⟨by first | rfl | (simp [errW_none, errW_some] <;> rfl) | (simp [*, errW_none, errW_some] <;> rfl), by repeat (first | (with_reducible first | exact HB.out | apply bA | apply bN | apply bD | refine bS ?_ GE288.out | refine bS ?_ GE294.out | refine bS ?_ GE301.out) | exact HB.out)⟩
         replace c53 := Bool.eq_false_iff.mpr c53
         subst c53
         have H1 : (if x43_2 > 0 then (if 0 ≤ (wrap64 (x43_2 - 1)) then (if (wrap64 (x43_2 - 1)) < (l0_2.length : Int) then ((resource_Less.f ((rd_T24 l0_2 (wrap64 (x43_2 - 1))).f0) ((rd_T24 l0_2 (wrap64 (x43_2 - 1))).f1) ((rd_T24 l0_2 (wrap64 (x43_2 - 1))).f2) ((rd_T24 l0_2 x43_2).f0) ((rd_T24 l0_2 x43_2).f1) ((rd_T24 l0_2 x43_2).f2)).bind fun t306 => (if t306 = true then (catalog_Check.l0 kj25 l0_2 (l0_2.length : Int) (wrap64 (x43_2 + 1)) a0_0 a0_1 l0_2 l0_3) else (some 71))) else (none)) else (none)) else (catalog_Check.l0 kj25 l0_2 (l0_2.length : Int) (wrap64 (x43_2 + 1)) a0_0 a0_1 l0_2 l0_3)) = some r := by rw [if_neg (show ¬ (false = true) by decide)] at H; exact H
         clear H
         have H := H1
         clear H1
         by_cases c54 : x43_2 > 0
         rotate_left
         · rw [if_neg c54] at H
           have c54b0 : decide (0 < x43_2) = false := decide_eq_false c54
           clear c54
           have H' := As.mk H
           clear H
           try go_wp2
           have n0_ := As.mk (Kd.R_drew HO_302002.out)
           have n1_ := As.mk (kD BK288.out)
           have n2_ := As.mk (kD BK294.out)
           have n3_ := As.mk (kD BK301.out)
           have n4_ := As.mk (bD HB.out)
           clear HO_302002
           clear BK288
           clear BK294
           clear BK301
           clear HB
           have HO_302002 := n0_
           have BK288 := n1_
           have BK294 := n2_
           have BK301 := n3_
           have HB := n4_
           clear n0_ n1_ n2_ n3_ n4_
           refine start_ (n := 14) (S := fun w' => True) (ds := []) (upB 14 0) (by kernel_rfl) rfl rfl trivial (fun hHeld => ?_); refine with_tabW catalog_Check.tab14 catalog_Check.bits14 (fun HT_ HW_ => ?_)
           generalize wc.drew = w64 at HO_302002 BK288 BK294 BK301 HB hHeld ⊢
           refine sP_ 0 77 HT_ (v := ?_) (hy := ?_) (a' := ?_) (ha := ?_) (h := ?_); rotate_left; (intro w'; go_simp; with_reducible rfl); rotate_left; (simp only [Act.put, zA, zZ, zS, i64_w, i32_w]; rfl)
           refine sP_ 1 78 HT_ (v := ?_) (hy := ?_) (a' := ?_) (ha := ?_) (h := ?_); rotate_left; (intro w'; go_simp; with_reducible rfl); rotate_left; (simp only [Act.put, zA, zZ, zS, i64_w, i32_w]; rfl)
           refine sP_ 2 79 HT_ (v := ?_) (hy := ?_) (a' := ?_) (ha := ?_) (h := ?_); rotate_left; (intro w'; go_simp; with_reducible rfl); rotate_left; (simp only [Act.put, zA, zZ, zS, i64_w, i32_w]; rfl)
           refine sN_ 3 80 HT_ (a' := ?_) (ha := ?_) (h := ?_); rotate_left; (simp only [Act.put, zA, zZ, zS, i64_w, i32_w]; rfl)
           refine sN_ 4 81 HT_ (a' := ?_) (ha := ?_) (h := ?_); rotate_left; (simp only [Act.put, zA, zZ, zS, i64_w, i32_w]; rfl)
           refine sN_ 5 82 HT_ (a' := ?_) (ha := ?_) (h := ?_); rotate_left; (simp only [Act.put, zA, zZ, zS, i64_w, i32_w]; rfl)
           refine sN_ 6 83 HT_ (a' := ?_) (ha := ?_) (h := ?_); rotate_left; (simp only [Act.put, zA, zZ, zS, i64_w, i32_w]; rfl)
           refine sN_ 7 84 HT_ (a' := ?_) (ha := ?_) (h := ?_); rotate_left; (simp only [Act.put, zA, zZ, zS, i64_w, i32_w]; rfl)
           refine sN_ 8 85 HT_ (a' := ?_) (ha := ?_) (h := ?_); rotate_left; (simp only [Act.put, zA, zZ, zS, i64_w, i32_w]; rfl)
           refine sN_ 9 86 HT_ (a' := ?_) (ha := ?_) (h := ?_); rotate_left; (simp only [Act.put, zA, zZ, zS, i64_w, i32_w]; rfl)
           refine sN_ 10 87 HT_ (a' := ?_) (ha := ?_) (h := ?_); rotate_left; (simp only [Act.put, zA, zZ, zS, i64_w, i32_w]; rfl)
           refine sN_ 11 88 HT_ (a' := ?_) (ha := ?_) (h := ?_); rotate_left; (simp only [Act.put, zA, zZ, zS, i64_w, i32_w]; rfl)
           refine sP_ 12 89 HT_ (v := ?_) (hy := ?_) (a' := ?_) (ha := ?_) (h := ?_); rotate_left; (intro w'; go_simp; with_reducible rfl); rotate_left; (simp only [Act.put, zA, zZ, zS, i64_w, i32_w]; rfl)
           refine sP_ 13 76 HT_ (v := ?_) (hy := ?_) (a' := ?_) (ha := ?_) (h := ?_); rotate_left; (intro w'; go_simp; with_reducible rfl); rotate_left; (simp only [Act.put, zA, zZ, zS, i64_w, i32_w]; rfl)
           refine done_ (done_of HT_.out (by kernel_rfl)) ?_
           try go_wp2
           go_roundg kj25
           case measure => have := HJ2.out; have := HK2.out; have := HJ25.out; omega
           case rel => exact ⟨(wrap64 (x43_2 + 1)), (by first | rfl | (simp; done) | (simp [*]; done)), H', ⟨by have := HJ2.out; have := HK2.out; have := HJ25.out; omega⟩, ⟨by (with_reducible repeat (first | refine kN ?_ _ | refine kD ?_ | refine kA ?_ _)); exact BK288.out⟩, ⟨by repeat (first | (with_reducible first | exact HB.out | apply bA | apply bN | apply bD | refine bS ?_ GE288.out | refine bS ?_ GE294.out | refine bS ?_ GE301.out) | exact HB.out)⟩⟩
         rw [if_pos c54] at H
         have c54b0 : decide (0 < x43_2) = true := decide_eq_true c54
         clear c54
         obtain ⟨ji55, hji55⟩ : ∃ j_ : Int, (wrap64 (x43_2 - 1)) = j_ := ⟨_, rfl⟩
         replace H : (if 0 ≤ (ji55) then (if (ji55) < (l0_2.length : Int) then ((resource_Less.f ((rd_T24 l0_2 (ji55)).f0) ((rd_T24 l0_2 (ji55)).f1) ((rd_T24 l0_2 (ji55)).f2) ((rd_T24 l0_2 x43_2).f0) ((rd_T24 l0_2 x43_2).f1) ((rd_T24 l0_2 x43_2).f2)).bind fun t306 => (if t306 = true then (catalog_Check.l0 kj25 l0_2 (l0_2.length : Int) (wrap64 (x43_2 + 1)) a0_0 a0_1 l0_2 l0_3) else (some 71))) else (none)) else (none)) = some r := by first | (rw [hji55] at H; exact H) | (simp only [hji55] at H ⊢; exact H)
         have hji55w : (IntKind.i64.wrap (x43_2 - 1)) = ji55 := (i64_w _).trans hji55
         by_cases c56 : 0 ≤ (ji55)
         rotate_left
         · rw [if_neg c56] at H
           exact absurd H (by simp)
         rw [if_pos c56] at H
         have c56b0 : decide (0 ≤ (ji55)) = true := decide_eq_true c56
         clear c56
         by_cases c57 : (ji55) < (l0_2.length : Int)
         rotate_left
         · rw [if_neg c57] at H
           exact absurd H (by simp)
         rw [if_pos c57] at H
         have c57b0 : decide ((ji55) < (l0_2.length : Int)) = true := decide_eq_true c57
         clear c57
         replace H := Option.bind_eq_some_iff.mp H
         obtain ⟨t306, A580, H⟩ := H
         replace H : (if t306 = true then (catalog_Check.l0 kj25 l0_2 (l0_2.length : Int) (wrap64 (x43_2 + 1)) a0_0 a0_1 l0_2 l0_3) else (some 71)) = some r := H
         have A58 := As.mk A580
         clear A580
         by_cases c59 : t306 = true
         rotate_left
         · replace c59 := Bool.eq_false_iff.mpr c59
           subst c59
           have H1 : (some 71) = some r := by rw [if_neg (show ¬ (false = true) by decide)] at H; exact H
           clear H
           have H := H1
           clear H1
           obtain rfl := Option.some.inj H
           try go_wp2
           have n0_ := As.mk (Kd.R_drew HO_302002.out)
           have n1_ := As.mk (kD BK288.out)
           have n2_ := As.mk (kD BK294.out)
           have n3_ := As.mk (kD BK301.out)
           have n4_ := As.mk (bD HB.out)
           clear HO_302002
           clear BK288
           clear BK294
           clear BK301
           clear HB
           have HO_302002 := n0_
           have BK288 := n1_
           have BK294 := n2_
           have BK301 := n3_
           have HB := n4_
           clear n0_ n1_ n2_ n3_ n4_
           have p305 : 0 ≤ ((ji55) : Int) := of_decide_eq_true (by first | (with_reducible assumption) | assumption)
           have q305 : (ji55) < (l0_2.length : Int) := of_decide_eq_true (by first | (with_reducible assumption) | assumption)
           obtain ⟨ad305, A305_2, c305_2, e305, hx305_0, hx305_1, hx305_2, hl305_2, hi305_2⟩ := at_T24 HR0_2.out (ji55) p305 q305
           have hw305_2 := hx305_2
           have hw305_1 := hx305_1
           have hw305_0 := hx305_0
           obtain rfl : ad293 = ad305 := (by injection e305)
           replace hx305_0 := (HB.out.cell (World.block_lt_of_cell? w _ hx305_0)).trans hx305_0
           replace hx305_1 := (HB.out.cell (World.block_lt_of_cell? w _ hx305_1)).trans hx305_1
           replace hx305_2 := (HB.out.cell (World.block_lt_of_cell? w _ hx305_2)).trans hx305_2
           have HR305_2 := As.mk hi305_2
           have HC305_2 := As.mk hl305_2
           clear hi305_2 hl305_2
           replace p305 := eq_true p305
           replace q305 := eq_true q305
           refine start_ (n := 14) (S := fun w' => w'.cell? ⟨gb288, 0, none⟩ = some (.int .i64 a0_0) ∧ w'.cell? ⟨gb288, 1, none⟩ = some (.string a0_1) ∧ w'.cell? ⟨gb288, 2, none⟩ = some (.slice (some ad293) l0_2.length c0_2) ∧ w'.cell? ⟨gb288, 3, none⟩ = some (.slice A0_3 l0_3.length c0_3) ∧ w'.cell? ⟨gb294, 0, none⟩ = some (.string ((rd_T24 l0_2 x43_2).f0)) ∧ w'.cell? ⟨gb294, 1, none⟩ = some (.string ((rd_T24 l0_2 x43_2).f1)) ∧ w'.cell? ⟨gb294, 2, none⟩ = some (.slice A293_2 ((rd_T24 l0_2 x43_2).f2).length c293_2) ∧ w'.cell? (ad293.add (((ji55)).toNat * 3)) = some (.string ((rd_T24 l0_2 (ji55)).f0)) ∧ w'.cell? ⟨(ad293.add (((ji55)).toNat * 3)).block, (ad293.add (((ji55)).toNat * 3)).off + 1, none⟩ = some (.string ((rd_T24 l0_2 (ji55)).f1)) ∧ w'.cell? ⟨(ad293.add (((ji55)).toNat * 3)).block, (ad293.add (((ji55)).toNat * 3)).off + 2, none⟩ = some (.slice A305_2 ((rd_T24 l0_2 (ji55)).f2).length c305_2)) (ds := []) (upB 14 0) (by kernel_rfl) rfl rfl ⟨(kC BK288.out 0).trans rfl, (kC BK288.out 1).trans rfl, (kC BK288.out 2).trans rfl, (kC BK288.out 3).trans rfl, (kC BK294.out 0).trans rfl, (kC BK294.out 1).trans rfl, (kC BK294.out 2).trans rfl, ((HB.out.cell (World.block_lt_of_cell? w _ hw305_0)).trans hw305_0), ((HB.out.cell (World.block_lt_of_cell? w _ hw305_1)).trans hw305_1), ((HB.out.cell (World.block_lt_of_cell? w _ hw305_2)).trans hw305_2)⟩ (fun hHeld => ?_); refine with_tabW catalog_Check.tab14 catalog_Check.bits14 (fun HT_ HW_ => ?_)
           generalize wc.drew = w62 at HO_302002 BK288 BK294 BK301 HB HR305_2 hx305_0 hx305_1 hx305_2 hHeld ⊢
           refine sP_ 0 77 HT_ (v := ?_) (hy := ?_) (a' := ?_) (ha := ?_) (h := ?_); rotate_left; (intro w'; go_simp; with_reducible rfl); rotate_left; (simp only [Act.put, zA, zZ, zS, i64_w, i32_w]; rfl)
           refine sP_ 1 78 HT_ (v := ?_) (hy := ?_) (a' := ?_) (ha := ?_) (h := ?_); rotate_left; (intro w'; go_simp; with_reducible rfl); rotate_left; (simp only [Act.put, zA, zZ, zS, i64_w, i32_w]; rfl)
           refine sP_ 2 79 HT_ (v := ?_) (hy := ?_) (a' := ?_) (ha := ?_) (h := ?_); rotate_left; (intro w'; go_simp; with_reducible rfl); rotate_left; (simp only [Act.put, zA, zZ, zS, i64_w, i32_w]; rfl)
           refine sP_ 3 80 HT_ (v := ?_) (hy := ?_) (a' := ?_) (ha := ?_) (h := ?_); rotate_left; (intro w'; go_simp; with_reducible rfl); rotate_left; (simp only [Act.put, zA, zZ, zS, i64_w, i32_w]; rfl)
           refine sT_ 4 81 HT_ HW_ hHeld (v := ?_) (hy := ?_) (a' := ?_) (ha := ?_) (h := ?_); rotate_left; (rintro w' ⟨s0, s1, s2, s3, s4, s5, s6, s7, s8, s9⟩; go_simp; with_reducible rfl); rotate_left; (simp only [Act.put, zA, zZ, zS, i64_w, i32_w]; rfl)
           refine sP_ 5 82 HT_ (v := ?_) (hy := ?_) (a' := ?_) (ha := ?_) (h := ?_); rotate_left; (intro w'; go_simp; with_reducible rfl); rotate_left; (simp only [Act.put, zA, zZ, zS, i64_w, i32_w]; rfl)
           refine sP_ 6 83 HT_ (v := ?_) (hy := ?_) (a' := ?_) (ha := ?_) (h := ?_); rotate_left; (intro w'; go_simp; with_reducible rfl); rotate_left; (simp only [Act.put, zA, zZ, zS, i64_w, i32_w]; rfl)
           refine sP_ 7 84 HT_ (v := ?_) (hy := ?_) (a' := ?_) (ha := ?_) (h := ?_); rotate_left; (intro w'; go_simp; with_reducible rfl); rotate_left; (simp only [Act.put, zA, zZ, zS, i64_w, i32_w]; rfl)
           refine sT_ 8 85 HT_ HW_ hHeld (v := ?_) (hy := ?_) (a' := ?_) (ha := ?_) (h := ?_); rotate_left; (rintro w' ⟨s0, s1, s2, s3, s4, s5, s6, s7, s8, s9⟩; go_simp; with_reducible rfl); rotate_left; (simp only [Act.put, zA, zZ, zS, i64_w, i32_w]; rfl)
           refine sT_ 9 86 HT_ HW_ hHeld (v := ?_) (hy := ?_) (a' := ?_) (ha := ?_) (h := ?_); rotate_left; (rintro w' ⟨s0, s1, s2, s3, s4, s5, s6, s7, s8, s9⟩; go_simp; with_reducible rfl); rotate_left; (simp only [Act.put, zA, zZ, zS, i64_w, i32_w]; rfl)
           refine one_ (i := 10) (N := some 87) (upB 14 11) rfl rfl (one_of HT_.out (by kernel_rfl)) (by decide) (fun K hK => ?_)
           refine goes_ Tryz.func41 (by kernel_rfl) rfl #[.agg #[.string ((rd_T24 l0_2 (ji55)).f0), .string ((rd_T24 l0_2 (ji55)).f1), .slice A305_2 ((rd_T24 l0_2 (ji55)).f2).length c305_2], .agg #[.string ((rd_T24 l0_2 x43_2).f0), .string ((rd_T24 l0_2 x43_2).f1), .slice A293_2 ((rd_T24 l0_2 x43_2).f2).length c293_2]] (by rfl) rfl rfl (by (try simp only [List.map_toArray, List.map_cons, List.map_nil]); first | done | (simp only [hji55]; rfl) | rfl | (simp only [List.length_drop, List.length_take]; rfl)) ?_
           with_reducible refine (resource_Less.calls ((rd_T24 l0_2 (ji55)).f0) ((rd_T24 l0_2 (ji55)).f1) _ _ ((rd_T24 l0_2 (ji55)).f2) ((rd_T24 l0_2 x43_2).f0) ((rd_T24 l0_2 x43_2).f1) _ _ ((rd_T24 l0_2 x43_2).f2) false _ ?side1 ?side2 ?side3 ?side4 A58.out).mono ?_
           (case side1 => repeat (first | exact (Kd.C_below HR305_2.out HB.out) | (with_reducible refine Kd.C_alloc ?_ _) | (with_reducible refine Kd.C_drewN ?_ _) | (with_reducible refine Kd.C_drew ?_)))
           (case side2 => exact HC305_2.out)
           (case side3 => repeat (first | exact (Kd.C_below HR293_2.out HB.out) | (with_reducible refine Kd.C_alloc ?_ _) | (with_reducible refine Kd.C_drewN ?_ _) | (with_reducible refine Kd.C_drew ?_)))
           (case side4 => exact HC293_2.out)
           rintro e w63 ⟨rfl, hb⟩
           refine ⟨_, rfl, ?_⟩
           have n0_ := As.mk (Kd.R_below (by (with_reducible repeat (first | apply Kd.R_alloc | apply Kd.R_drewN | apply Kd.R_drew)); exact HO_302002.out) hb)
           have n1_ := As.mk (kB (g := gb288) (o := .cells #[.int .i64 a0_0, .string a0_1, .slice (some ad293) l0_2.length c0_2, .slice A0_3 l0_3.length c0_3] 37 (0, 0)) (by (with_reducible repeat (first | refine kN ?_ _ | refine kD ?_ | refine kA ?_ _)); exact BK288.out) hb)
           have n2_ := As.mk (kB (g := gb294) (o := .cells #[.string ((rd_T24 l0_2 x43_2).f0), .string ((rd_T24 l0_2 x43_2).f1), .slice A293_2 ((rd_T24 l0_2 x43_2).f2).length c293_2] 24 (0, 0)) (by (with_reducible repeat (first | refine kN ?_ _ | refine kD ?_ | refine kA ?_ _)); exact BK294.out) hb)
           have n3_ := As.mk (kB (g := gb301) (o := .cells #[.string t295, .string t296, .slice Ao35 t297.length co35] 24 (0, 0)) (by (with_reducible repeat (first | refine kN ?_ _ | refine kD ?_ | refine kA ?_ _)); exact BK301.out) hb)
           have n4_ := As.mk (bT (by repeat (first | (with_reducible first | exact HB.out | apply bA | apply bN | apply bD | refine bS ?_ GE288.out | refine bS ?_ GE294.out | refine bS ?_ GE301.out) | exact HB.out)) hb)
           clear HO_302002
           clear BK288
           clear BK294
           clear BK301
           clear HB
           have HO_302002 := n0_
           have BK288 := n1_
           have BK294 := n2_
           have BK301 := n3_
           have HB := n4_
           clear n0_ n1_ n2_ n3_ n4_
           (try clear hb)
           (try clear hb2)
           (try clear hk)
           (try clear hi)
           refine hK.out _ _ ⟨(kC BK288.out 0).trans rfl, (kC BK288.out 1).trans rfl, (kC BK288.out 2).trans rfl, (kC BK288.out 3).trans rfl, (kC BK294.out 0).trans rfl, (kC BK294.out 1).trans rfl, (kC BK294.out 2).trans rfl, ((HB.out.cell (World.block_lt_of_cell? w _ hw305_0)).trans hw305_0), ((HB.out.cell (World.block_lt_of_cell? w _ hw305_1)).trans hw305_1), ((HB.out.cell (World.block_lt_of_cell? w _ hw305_2)).trans hw305_2)⟩ (fun hHeld => ?_)
           clear hK K
           refine norm_ (a' := ?_) ?_ ?_
           rotate_left
           · show Act.put _ (some 87) _ = _
             simp only [Act.put, zA, zZ, zS, i64_w, i32_w]
             rfl
           refine sP_ 11 88 HT_ (v := ?_) (hy := ?_) (a' := ?_) (ha := ?_) (h := ?_); rotate_left; (intro w'; go_simp; with_reducible rfl); rotate_left; (simp only [Act.put, zA, zZ, zS, i64_w, i32_w]; rfl)
           refine sP_ 12 89 HT_ (v := ?_) (hy := ?_) (a' := ?_) (ha := ?_) (h := ?_); rotate_left; (intro w'; go_simp; with_reducible rfl); rotate_left; (simp only [Act.put, zA, zZ, zS, i64_w, i32_w]; rfl)
           refine sP_ 13 76 HT_ (v := ?_) (hy := ?_) (a' := ?_) (ha := ?_) (h := ?_); rotate_left; (intro w'; go_simp; with_reducible rfl); rotate_left; (simp only [Act.put, zA, zZ, zS, i64_w, i32_w]; rfl)
           refine done_ (done_of HT_.out (by kernel_rfl)) ?_
           try go_wp2
           go_ret
           exact ⟨by first | rfl | (simp [errW_none, errW_some] <;> rfl) | (simp only [← hji55]; first | rfl | (simp [errW_none, errW_some] <;> rfl)) | (simp [*, errW_none, errW_some] <;> rfl), by repeat (first | (with_reducible first | exact HB.out | apply bA | apply bN | apply bD | refine bS ?_ GE288.out | refine bS ?_ GE294.out | refine bS ?_ GE301.out) | exact HB.out)⟩
         subst c59
         have H1 : (catalog_Check.l0 kj25 l0_2 (l0_2.length : Int) (wrap64 (x43_2 + 1)) a0_0 a0_1 l0_2 l0_3) = some r := by rw [if_pos rfl] at H; exact H
         clear H
         have H := H1
         clear H1
         have H' := As.mk H
         clear H
         try go_wp2
         have n0_ := As.mk (Kd.R_drew HO_302002.out)
         have n1_ := As.mk (kD BK288.out)
         have n2_ := As.mk (kD BK294.out)
         have n3_ := As.mk (kD BK301.out)
         have n4_ := As.mk (bD HB.out)
         clear HO_302002
         clear BK288
         clear BK294
         clear BK301
         clear HB
         have HO_302002 := n0_
         have BK288 := n1_
         have BK294 := n2_
         have BK301 := n3_
         have HB := n4_
         clear n0_ n1_ n2_ n3_ n4_
         have p305 : 0 ≤ ((ji55) : Int) := of_decide_eq_true (by first | (with_reducible assumption) | assumption)
         have q305 : (ji55) < (l0_2.length : Int) := of_decide_eq_true (by first | (with_reducible assumption) | assumption)
         obtain ⟨ad305, A305_2, c305_2, e305, hx305_0, hx305_1, hx305_2, hl305_2, hi305_2⟩ := at_T24 HR0_2.out (ji55) p305 q305
         have hw305_2 := hx305_2
         have hw305_1 := hx305_1
         have hw305_0 := hx305_0
         obtain rfl : ad293 = ad305 := (by injection e305)
         replace hx305_0 := (HB.out.cell (World.block_lt_of_cell? w _ hx305_0)).trans hx305_0
         replace hx305_1 := (HB.out.cell (World.block_lt_of_cell? w _ hx305_1)).trans hx305_1
         replace hx305_2 := (HB.out.cell (World.block_lt_of_cell? w _ hx305_2)).trans hx305_2
         have HR305_2 := As.mk hi305_2
         have HC305_2 := As.mk hl305_2
         clear hi305_2 hl305_2
         replace p305 := eq_true p305
         replace q305 := eq_true q305
         refine start_ (n := 14) (S := fun w' => w'.cell? ⟨gb288, 0, none⟩ = some (.int .i64 a0_0) ∧ w'.cell? ⟨gb288, 1, none⟩ = some (.string a0_1) ∧ w'.cell? ⟨gb288, 2, none⟩ = some (.slice (some ad293) l0_2.length c0_2) ∧ w'.cell? ⟨gb288, 3, none⟩ = some (.slice A0_3 l0_3.length c0_3) ∧ w'.cell? ⟨gb294, 0, none⟩ = some (.string ((rd_T24 l0_2 x43_2).f0)) ∧ w'.cell? ⟨gb294, 1, none⟩ = some (.string ((rd_T24 l0_2 x43_2).f1)) ∧ w'.cell? ⟨gb294, 2, none⟩ = some (.slice A293_2 ((rd_T24 l0_2 x43_2).f2).length c293_2) ∧ w'.cell? (ad293.add (((ji55)).toNat * 3)) = some (.string ((rd_T24 l0_2 (ji55)).f0)) ∧ w'.cell? ⟨(ad293.add (((ji55)).toNat * 3)).block, (ad293.add (((ji55)).toNat * 3)).off + 1, none⟩ = some (.string ((rd_T24 l0_2 (ji55)).f1)) ∧ w'.cell? ⟨(ad293.add (((ji55)).toNat * 3)).block, (ad293.add (((ji55)).toNat * 3)).off + 2, none⟩ = some (.slice A305_2 ((rd_T24 l0_2 (ji55)).f2).length c305_2)) (ds := []) (upB 14 0) (by kernel_rfl) rfl rfl ⟨(kC BK288.out 0).trans rfl, (kC BK288.out 1).trans rfl, (kC BK288.out 2).trans rfl, (kC BK288.out 3).trans rfl, (kC BK294.out 0).trans rfl, (kC BK294.out 1).trans rfl, (kC BK294.out 2).trans rfl, ((HB.out.cell (World.block_lt_of_cell? w _ hw305_0)).trans hw305_0), ((HB.out.cell (World.block_lt_of_cell? w _ hw305_1)).trans hw305_1), ((HB.out.cell (World.block_lt_of_cell? w _ hw305_2)).trans hw305_2)⟩ (fun hHeld => ?_); refine with_tabW catalog_Check.tab14 catalog_Check.bits14 (fun HT_ HW_ => ?_)
         generalize wc.drew = w60 at HO_302002 BK288 BK294 BK301 HB HR305_2 hx305_0 hx305_1 hx305_2 hHeld ⊢
         refine sP_ 0 77 HT_ (v := ?_) (hy := ?_) (a' := ?_) (ha := ?_) (h := ?_); rotate_left; (intro w'; go_simp; with_reducible rfl); rotate_left; (simp only [Act.put, zA, zZ, zS, i64_w, i32_w]; rfl)
         refine sP_ 1 78 HT_ (v := ?_) (hy := ?_) (a' := ?_) (ha := ?_) (h := ?_); rotate_left; (intro w'; go_simp; with_reducible rfl); rotate_left; (simp only [Act.put, zA, zZ, zS, i64_w, i32_w]; rfl)
         refine sP_ 2 79 HT_ (v := ?_) (hy := ?_) (a' := ?_) (ha := ?_) (h := ?_); rotate_left; (intro w'; go_simp; with_reducible rfl); rotate_left; (simp only [Act.put, zA, zZ, zS, i64_w, i32_w]; rfl)
         refine sP_ 3 80 HT_ (v := ?_) (hy := ?_) (a' := ?_) (ha := ?_) (h := ?_); rotate_left; (intro w'; go_simp; with_reducible rfl); rotate_left; (simp only [Act.put, zA, zZ, zS, i64_w, i32_w]; rfl)
         refine sT_ 4 81 HT_ HW_ hHeld (v := ?_) (hy := ?_) (a' := ?_) (ha := ?_) (h := ?_); rotate_left; (rintro w' ⟨s0, s1, s2, s3, s4, s5, s6, s7, s8, s9⟩; go_simp; with_reducible rfl); rotate_left; (simp only [Act.put, zA, zZ, zS, i64_w, i32_w]; rfl)
         refine sP_ 5 82 HT_ (v := ?_) (hy := ?_) (a' := ?_) (ha := ?_) (h := ?_); rotate_left; (intro w'; go_simp; with_reducible rfl); rotate_left; (simp only [Act.put, zA, zZ, zS, i64_w, i32_w]; rfl)
         refine sP_ 6 83 HT_ (v := ?_) (hy := ?_) (a' := ?_) (ha := ?_) (h := ?_); rotate_left; (intro w'; go_simp; with_reducible rfl); rotate_left; (simp only [Act.put, zA, zZ, zS, i64_w, i32_w]; rfl)
         refine sP_ 7 84 HT_ (v := ?_) (hy := ?_) (a' := ?_) (ha := ?_) (h := ?_); rotate_left; (intro w'; go_simp; with_reducible rfl); rotate_left; (simp only [Act.put, zA, zZ, zS, i64_w, i32_w]; rfl)
         refine sT_ 8 85 HT_ HW_ hHeld (v := ?_) (hy := ?_) (a' := ?_) (ha := ?_) (h := ?_); rotate_left; (rintro w' ⟨s0, s1, s2, s3, s4, s5, s6, s7, s8, s9⟩; go_simp; with_reducible rfl); rotate_left; (simp only [Act.put, zA, zZ, zS, i64_w, i32_w]; rfl)
         refine sT_ 9 86 HT_ HW_ hHeld (v := ?_) (hy := ?_) (a' := ?_) (ha := ?_) (h := ?_); rotate_left; (rintro w' ⟨s0, s1, s2, s3, s4, s5, s6, s7, s8, s9⟩; go_simp; with_reducible rfl); rotate_left; (simp only [Act.put, zA, zZ, zS, i64_w, i32_w]; rfl)
         refine one_ (i := 10) (N := some 87) (upB 14 11) rfl rfl (one_of HT_.out (by kernel_rfl)) (by decide) (fun K hK => ?_)
         refine goes_ Tryz.func41 (by kernel_rfl) rfl #[.agg #[.string ((rd_T24 l0_2 (ji55)).f0), .string ((rd_T24 l0_2 (ji55)).f1), .slice A305_2 ((rd_T24 l0_2 (ji55)).f2).length c305_2], .agg #[.string ((rd_T24 l0_2 x43_2).f0), .string ((rd_T24 l0_2 x43_2).f1), .slice A293_2 ((rd_T24 l0_2 x43_2).f2).length c293_2]] (by rfl) rfl rfl (by (try simp only [List.map_toArray, List.map_cons, List.map_nil]); first | done | (simp only [hji55]; rfl) | rfl | (simp only [List.length_drop, List.length_take]; rfl)) ?_
         with_reducible refine (resource_Less.calls ((rd_T24 l0_2 (ji55)).f0) ((rd_T24 l0_2 (ji55)).f1) _ _ ((rd_T24 l0_2 (ji55)).f2) ((rd_T24 l0_2 x43_2).f0) ((rd_T24 l0_2 x43_2).f1) _ _ ((rd_T24 l0_2 x43_2).f2) true _ ?side1 ?side2 ?side3 ?side4 A58.out).mono ?_
         (case side1 => repeat (first | exact (Kd.C_below HR305_2.out HB.out) | (with_reducible refine Kd.C_alloc ?_ _) | (with_reducible refine Kd.C_drewN ?_ _) | (with_reducible refine Kd.C_drew ?_)))
         (case side2 => exact HC305_2.out)
         (case side3 => repeat (first | exact (Kd.C_below HR293_2.out HB.out) | (with_reducible refine Kd.C_alloc ?_ _) | (with_reducible refine Kd.C_drewN ?_ _) | (with_reducible refine Kd.C_drew ?_)))
         (case side4 => exact HC293_2.out)
         rintro e w61 ⟨rfl, hb⟩
         refine ⟨_, rfl, ?_⟩
         have n0_ := As.mk (Kd.R_below (by (with_reducible repeat (first | apply Kd.R_alloc | apply Kd.R_drewN | apply Kd.R_drew)); exact HO_302002.out) hb)
         have n1_ := As.mk (kB (g := gb288) (o := .cells #[.int .i64 a0_0, .string a0_1, .slice (some ad293) l0_2.length c0_2, .slice A0_3 l0_3.length c0_3] 37 (0, 0)) (by (with_reducible repeat (first | refine kN ?_ _ | refine kD ?_ | refine kA ?_ _)); exact BK288.out) hb)
         have n2_ := As.mk (kB (g := gb294) (o := .cells #[.string ((rd_T24 l0_2 x43_2).f0), .string ((rd_T24 l0_2 x43_2).f1), .slice A293_2 ((rd_T24 l0_2 x43_2).f2).length c293_2] 24 (0, 0)) (by (with_reducible repeat (first | refine kN ?_ _ | refine kD ?_ | refine kA ?_ _)); exact BK294.out) hb)
         have n3_ := As.mk (kB (g := gb301) (o := .cells #[.string t295, .string t296, .slice Ao35 t297.length co35] 24 (0, 0)) (by (with_reducible repeat (first | refine kN ?_ _ | refine kD ?_ | refine kA ?_ _)); exact BK301.out) hb)
         have n4_ := As.mk (bT (by repeat (first | (with_reducible first | exact HB.out | apply bA | apply bN | apply bD | refine bS ?_ GE288.out | refine bS ?_ GE294.out | refine bS ?_ GE301.out) | exact HB.out)) hb)
         clear HO_302002
         clear BK288
         clear BK294
         clear BK301
         clear HB
         have HO_302002 := n0_
         have BK288 := n1_
         have BK294 := n2_
         have BK301 := n3_
         have HB := n4_
         clear n0_ n1_ n2_ n3_ n4_
         (try clear hb)
         (try clear hb2)
         (try clear hk)
         (try clear hi)
         refine hK.out _ _ ⟨(kC BK288.out 0).trans rfl, (kC BK288.out 1).trans rfl, (kC BK288.out 2).trans rfl, (kC BK288.out 3).trans rfl, (kC BK294.out 0).trans rfl, (kC BK294.out 1).trans rfl, (kC BK294.out 2).trans rfl, ((HB.out.cell (World.block_lt_of_cell? w _ hw305_0)).trans hw305_0), ((HB.out.cell (World.block_lt_of_cell? w _ hw305_1)).trans hw305_1), ((HB.out.cell (World.block_lt_of_cell? w _ hw305_2)).trans hw305_2)⟩ (fun hHeld => ?_)
         clear hK K
         refine norm_ (a' := ?_) ?_ ?_
         rotate_left
         · show Act.put _ (some 87) _ = _
           simp only [Act.put, zA, zZ, zS, i64_w, i32_w]
           rfl
         refine sP_ 11 88 HT_ (v := ?_) (hy := ?_) (a' := ?_) (ha := ?_) (h := ?_); rotate_left; (intro w'; go_simp; with_reducible rfl); rotate_left; (simp only [Act.put, zA, zZ, zS, i64_w, i32_w]; rfl)
         refine sP_ 12 89 HT_ (v := ?_) (hy := ?_) (a' := ?_) (ha := ?_) (h := ?_); rotate_left; (intro w'; go_simp; with_reducible rfl); rotate_left; (simp only [Act.put, zA, zZ, zS, i64_w, i32_w]; rfl)
         refine sP_ 13 76 HT_ (v := ?_) (hy := ?_) (a' := ?_) (ha := ?_) (h := ?_); rotate_left; (intro w'; go_simp; with_reducible rfl); rotate_left; (simp only [Act.put, zA, zZ, zS, i64_w, i32_w]; rfl)
         refine done_ (done_of HT_.out (by kernel_rfl)) ?_
         try go_wp2
         go_roundg kj25
         case measure => have := HJ2.out; have := HK2.out; have := HJ25.out; omega
         case rel => exact ⟨(wrap64 (x43_2 + 1)), (by first | rfl | (simp; done) | (simp [*]; done)), H', ⟨by have := HJ2.out; have := HK2.out; have := HJ25.out; omega⟩, ⟨by (with_reducible repeat (first | refine kN ?_ _ | refine kD ?_ | refine kA ?_ _)); exact BK288.out⟩, ⟨by repeat (first | (with_reducible first | exact HB.out | apply bA | apply bN | apply bD | refine bS ?_ GE288.out | refine bS ?_ GE294.out | refine bS ?_ GE301.out) | exact HB.out)⟩⟩
     rw [if_neg c21] at H
     have c21b0 : decide (x43_2 < (l0_2.length : Int)) = false := decide_eq_false c21
     clear c21
     replace H := Option.bind_eq_some_iff.mp H
     obtain ⟨t307, A740, H⟩ := H
     replace H : (if t307 = true then (some 90) else (catalog_Check.l1 k2 (l0_2.length : Int) l0_3 (l0_3.length : Int) 0 a0_0 a0_1 l0_2 l0_3)) = some r := H
     have A74 := As.mk A740
     clear A740
     by_cases c75 : t307 = true
     · subst c75
       have H1 : (some 90) = some r := by rw [if_pos rfl] at H; exact H
       clear H
       have H := H1
       clear H1
       obtain rfl := Option.some.inj H
       have hcz76_0 : wr.cell? ⟨gb288, 0, none⟩ = some (.int .i64 a0_0) := (kC BK288.out 0).trans rfl
       have hcz76_1 : wr.cell? ⟨gb288, 1, none⟩ = some (.string a0_1) := (kC BK288.out 1).trans rfl
       have hcz76_2 : wr.cell? ⟨gb288, 2, none⟩ = some (.slice A0_2 l0_2.length c0_2) := (kC BK288.out 2).trans rfl
       have hcz76_3 : wr.cell? ⟨gb288, 3, none⟩ = some (.slice A0_3 l0_3.length c0_3) := (kC BK288.out 3).trans rfl
       have hfz76_0 := kF BK288.out 0
       have hfz76_1 := kF BK288.out 1
       have hfz76_2 := kF BK288.out 2
       have hfz76_3 := kF BK288.out 3
       go_wp2_with (first | ((with_reducible refine gate_callee (f := 42) rfl ?_); refine goesL_ (some 93) rfl rfl Tryz.func42 (by kernel_rfl) rfl #[.slice A0_2 l0_2.length c0_2] rfl (by (try simp only [List.map_toArray, List.map_cons, List.map_nil]); first | done | rfl | (simp only [List.length_drop, List.length_take]; rfl)) ?_; (with_reducible refine (catalog_blocked.calls _ _ l0_2 true _ ?side1 ?side2 A74.out).mono ?_); (case side1 => repeat (first | exact (Kd.C_below HR0_2.out HB.out) | (with_reducible refine Kd.C_alloc ?_ _) | (with_reducible refine Kd.C_drewN ?_ _) | (with_reducible refine Kd.C_drew ?_))); (case side2 => exact HC0_2.out); rintro e w77 ⟨rfl, hb⟩; refine ⟨_, rfl, ?_⟩; have n0_ := As.mk (kB (g := gb288) (o := .cells #[.int .i64 a0_0, .string a0_1, .slice A0_2 l0_2.length c0_2, .slice A0_3 l0_3.length c0_3] 37 (0, 0)) (by (with_reducible repeat (first | refine kN ?_ _ | refine kD ?_ | refine kA ?_ _)); exact BK288.out) hb); have n1_ := As.mk (bT (by repeat (first | (with_reducible first | exact HB.out | apply bA | apply bN | apply bD | refine bS ?_ GE288.out) | exact HB.out)) hb); clear BK288; clear HB; have BK288 := n0_; have HB := n1_; clear n0_ n1_; (try clear hb); (try clear hb2); (try clear hk); (try clear hi)))
       go_ret
       exact ⟨by first | rfl | (simp [errW_none, errW_some] <;> rfl) | (simp [*, errW_none, errW_some] <;> rfl), by repeat (first | (with_reducible first | exact HB.out | apply bA | apply bN | apply bD | refine bS ?_ GE288.out) | exact HB.out)⟩
     replace c75 := Bool.eq_false_iff.mpr c75
     subst c75
     have H1 : (catalog_Check.l1 k2 (l0_2.length : Int) l0_3 (l0_3.length : Int) 0 a0_0 a0_1 l0_2 l0_3) = some r := by rw [if_neg (show ¬ (false = true) by decide)] at H; exact H
     clear H
     have H := H1
     clear H1
     have H' := As.mk H
     clear H
     have hcz78_0 : wr.cell? ⟨gb288, 0, none⟩ = some (.int .i64 a0_0) := (kC BK288.out 0).trans rfl
     have hcz78_1 : wr.cell? ⟨gb288, 1, none⟩ = some (.string a0_1) := (kC BK288.out 1).trans rfl
     have hcz78_2 : wr.cell? ⟨gb288, 2, none⟩ = some (.slice A0_2 l0_2.length c0_2) := (kC BK288.out 2).trans rfl
     have hcz78_3 : wr.cell? ⟨gb288, 3, none⟩ = some (.slice A0_3 l0_3.length c0_3) := (kC BK288.out 3).trans rfl
     have hfz78_0 := kF BK288.out 0
     have hfz78_1 := kF BK288.out 1
     have hfz78_2 := kF BK288.out 2
     have hfz78_3 := kF BK288.out 3
     go_wp2_with (first | ((with_reducible refine gate_callee (f := 42) rfl ?_); refine goesL_ (some 93) rfl rfl Tryz.func42 (by kernel_rfl) rfl #[.slice A0_2 l0_2.length c0_2] rfl (by (try simp only [List.map_toArray, List.map_cons, List.map_nil]); first | done | rfl | (simp only [List.length_drop, List.length_take]; rfl)) ?_; (with_reducible refine (catalog_blocked.calls _ _ l0_2 false _ ?side1 ?side2 A74.out).mono ?_); (case side1 => repeat (first | exact (Kd.C_below HR0_2.out HB.out) | (with_reducible refine Kd.C_alloc ?_ _) | (with_reducible refine Kd.C_drewN ?_ _) | (with_reducible refine Kd.C_drew ?_))); (case side2 => exact HC0_2.out); rintro e w79 ⟨rfl, hb⟩; refine ⟨_, rfl, ?_⟩; have n0_ := As.mk (kB (g := gb288) (o := .cells #[.int .i64 a0_0, .string a0_1, .slice A0_2 l0_2.length c0_2, .slice A0_3 l0_3.length c0_3] 37 (0, 0)) (by (with_reducible repeat (first | refine kN ?_ _ | refine kD ?_ | refine kA ?_ _)); exact BK288.out) hb); have n1_ := As.mk (bT (by repeat (first | (with_reducible first | exact HB.out | apply bA | apply bN | apply bD | refine bS ?_ GE288.out) | exact HB.out)) hb); clear BK288; clear HB; have BK288 := n0_; have HB := n1_; clear n0_ n1_; (try clear hb); (try clear hb2); (try clear hk); (try clear hi); have hcz80_0 : w79.cell? ⟨gb288, 0, none⟩ = some (.int .i64 a0_0) := (kC BK288.out 0).trans rfl; have hcz80_1 : w79.cell? ⟨gb288, 1, none⟩ = some (.string a0_1) := (kC BK288.out 1).trans rfl; have hcz80_2 : w79.cell? ⟨gb288, 2, none⟩ = some (.slice A0_2 l0_2.length c0_2) := (kC BK288.out 2).trans rfl; have hcz80_3 : w79.cell? ⟨gb288, 3, none⟩ = some (.slice A0_3 l0_3.length c0_3) := (kC BK288.out 3).trans rfl; have hfz80_0 := kF BK288.out 0; have hfz80_1 := kF BK288.out 1; have hfz80_2 := kF BK288.out 2; have hfz80_3 := kF BK288.out 3))
     go_loopg [100] k2 (fun kq v100 w' => ∃ (x100_3 : Int), v100 = .int .i64 x100_3 ∧ As (catalog_Check.l1 kq (l0_2.length : Int) l0_3 (l0_3.length : Int) x100_3 a0_0 a0_1 l0_2 l0_3 = some r) ∧ As (kq ≤ k2) ∧ As (w'.heap[gb288]? = some (.cells #[.int .i64 a0_0, .string a0_1, (.slice A0_2 l0_2.length c0_2), (.slice A0_3 l0_3.length c0_3)] 37 (0, 0))) ∧ As (Below w.heap.size w w'))
     case atStart => exact ⟨(0), (by first | rfl | (simp; done) | (simp [*]; done)), H', ⟨Nat.le_refl _⟩, ⟨by (with_reducible repeat (first | refine kN ?_ _ | refine kD ?_ | refine kA ?_ _)); exact BK288.out⟩, ⟨by repeat (first | (with_reducible first | exact HB.out | apply bA | apply bN | apply bD | refine bS ?_ GE288.out) | exact HB.out)⟩⟩
     case round =>
      clear H'
      try clear c1
      try clear c2
      try clear p2
      try clear q2
      try clear hx2
      try clear c3
      try clear p3
      try clear q3
      try clear hx3
      try clear c4
      try clear c5
      try clear c6
      try clear p6
      try clear c7
      try clear c11
      try clear c21
      try clear c21b0
      try clear c22
      try clear c23
      try clear c25
      try clear c25b0
      try clear c25b1
      try clear c29
      try clear p29
      try clear q29
      try clear hx29
      try clear c30
      try clear p30
      try clear q30
      try clear hx30
      try clear c41
      try clear c42
      try clear c53
      try clear c54
      try clear c54b0
      try clear c56
      try clear c56b0
      try clear c57
      try clear c57b0
      try clear c59
      try clear p64
      try clear c66
      try clear c70
      try clear c71
      try clear c75
      try clear hcz67_0
      try clear hcz67_1
      try clear hcz67_2
      try clear hcz72_0
      try clear hcz72_1
      try clear hcz72_2
      try clear hcz76_0
      try clear hcz76_1
      try clear hcz76_2
      try clear hcz76_3
      try clear hcz78_0
      try clear hcz78_1
      try clear hcz78_2
      try clear hcz78_3
      try clear hcz80_0
      try clear hcz80_1
      try clear hcz80_2
      try clear hcz80_3
      try clear hfz67_0
      try clear hfz67_1
      try clear hfz67_2
      try clear hfz72_0
      try clear hfz72_1
      try clear hfz72_2
      try clear hfz76_0
      try clear hfz76_1
      try clear hfz76_2
      try clear hfz76_3
      try clear hfz78_0
      try clear hfz78_1
      try clear hfz78_2
      try clear hfz78_3
      try clear hfz80_0
      try clear hfz80_1
      try clear hfz80_2
      try clear hfz80_3
      try clear hx293_0
      try clear hx293_1
      try clear hx293_2
      try clear hx303_0
      try clear hx303_1
      try clear hx303_2
      try clear hx305_0
      try clear hx305_1
      try clear hx305_2
      try clear p293
      try clear p303
      try clear p305
      try clear q293
      try clear q303
      try clear q305
      obtain ⟨x100_3, rfl, HA, HK3, BK288, HB⟩ := hrel
      cases gk with
      | zero => exact absurd HA.out (by simp [catalog_Check.l1])
      | succ k3 =>
       have H := HA.out
       clear HA
       simp only [catalog_Check.l1] at H
       by_cases c81 : x100_3 < (l0_3.length : Int)
       rotate_left
       · rw [if_neg c81] at H
         have c81b0 : decide (x100_3 < (l0_3.length : Int)) = false := decide_eq_false c81
         clear c81
         replace H := Option.bind_eq_some_iff.mp H
         obtain ⟨t312, A1270, H⟩ := H
         replace H : (if (t312.length : Int) > 2432 then (some 5) else (some 0)) = some r := H
         have A127 := As.mk A1270
         clear A1270
         by_cases c128 : (t312.length : Int) > 2432
         · rw [if_pos c128] at H
           have c128b0 : decide (2432 < (t312.length : Int)) = true := decide_eq_true c128
           have c128b1 : decide (2432 < t312.length) = true := decide_eq_true (by omega)
           clear c128
           obtain rfl := Option.some.inj H
           have hcz129_0 : wr.cell? ⟨gb288, 0, none⟩ = some (.int .i64 a0_0) := (kC BK288.out 0).trans rfl
           have hcz129_1 : wr.cell? ⟨gb288, 1, none⟩ = some (.string a0_1) := (kC BK288.out 1).trans rfl
           have hcz129_2 : wr.cell? ⟨gb288, 2, none⟩ = some (.slice A0_2 l0_2.length c0_2) := (kC BK288.out 2).trans rfl
           have hcz129_3 : wr.cell? ⟨gb288, 3, none⟩ = some (.slice A0_3 l0_3.length c0_3) := (kC BK288.out 3).trans rfl
           have hfz129_0 := kF BK288.out 0
           have hfz129_1 := kF BK288.out 1
           have hfz129_2 := kF BK288.out 2
           have hfz129_3 := kF BK288.out 3
           go_wp2_with (first | ((with_reducible refine gate_callee (f := 37) rfl ?_); refine goesL_ (some 144) rfl rfl Tryz.func37 (by kernel_rfl) rfl #[.agg #[.int .i64 a0_0, .string a0_1, .slice A0_2 l0_2.length c0_2, .slice A0_3 l0_3.length c0_3]] rfl (by (try simp only [List.map_toArray, List.map_cons, List.map_nil]); first | done | rfl | (simp only [List.length_drop, List.length_take]; rfl)) ?_; (with_reducible refine (catalog_bytes.calls a0_0 a0_1 _ _ l0_2 _ _ l0_3 t312 _ ?side1 ?side2 ?side3 ?side4 A127.out).mono ?_); (case side1 => repeat (first | exact (Kd.C_below HR0_2.out HB.out) | (with_reducible refine Kd.C_alloc ?_ _) | (with_reducible refine Kd.C_drewN ?_ _) | (with_reducible refine Kd.C_drew ?_))); (case side2 => exact HC0_2.out); (case side3 => repeat (first | exact (Kd.C_below HR0_3.out HB.out) | (with_reducible refine Kd.C_alloc ?_ _) | (with_reducible refine Kd.C_drewN ?_ _) | (with_reducible refine Kd.C_drew ?_))); (case side4 => exact HC0_3.out); rintro e w130 ⟨v313, rfl, ho0, hb⟩; refine ⟨_, rfl, ?_⟩; have n0_ := As.mk (Kd.R_lower ho0 (bZ (by repeat (first | (with_reducible first | exact HB.out | apply bA | apply bN | apply bD | refine bS ?_ GE288.out) | exact HB.out)))); have n1_ := As.mk (kB (g := gb288) (o := .cells #[.int .i64 a0_0, .string a0_1, .slice A0_2 l0_2.length c0_2, .slice A0_3 l0_3.length c0_3] 37 (0, 0)) (by (with_reducible repeat (first | refine kN ?_ _ | refine kD ?_ | refine kA ?_ _)); exact BK288.out) hb); have n2_ := As.mk (bT (by repeat (first | (with_reducible first | exact HB.out | apply bA | apply bN | apply bD | refine bS ?_ GE288.out) | exact HB.out)) hb); clear BK288; clear HB; have HO314 := n0_; have BK288 := n1_; have HB := n2_; clear n0_ n1_ n2_; (try clear hb); (try clear hb2); (try clear hk); (try clear hi); (try clear ho0); obtain ⟨Ao131, co131, eo131⟩ := Kd.R_slice HO314.out; subst eo131))
           go_ret
           exact ⟨by first | rfl | (simp [errW_none, errW_some] <;> rfl) | (simp [*, errW_none, errW_some] <;> rfl), by repeat (first | (with_reducible first | exact HB.out | apply bA | apply bN | apply bD | refine bS ?_ GE288.out) | exact HB.out)⟩
         rw [if_neg c128] at H
         have c128b0 : decide (2432 < (t312.length : Int)) = false := decide_eq_false c128
         have c128b1 : decide (2432 < t312.length) = false := decide_eq_false (by omega)
         clear c128
         obtain rfl := Option.some.inj H
         have hcz132_0 : wr.cell? ⟨gb288, 0, none⟩ = some (.int .i64 a0_0) := (kC BK288.out 0).trans rfl
         have hcz132_1 : wr.cell? ⟨gb288, 1, none⟩ = some (.string a0_1) := (kC BK288.out 1).trans rfl
         have hcz132_2 : wr.cell? ⟨gb288, 2, none⟩ = some (.slice A0_2 l0_2.length c0_2) := (kC BK288.out 2).trans rfl
         have hcz132_3 : wr.cell? ⟨gb288, 3, none⟩ = some (.slice A0_3 l0_3.length c0_3) := (kC BK288.out 3).trans rfl
         have hfz132_0 := kF BK288.out 0
         have hfz132_1 := kF BK288.out 1
         have hfz132_2 := kF BK288.out 2
         have hfz132_3 := kF BK288.out 3
         go_wp2_with (first | ((with_reducible refine gate_callee (f := 37) rfl ?_); refine goesL_ (some 144) rfl rfl Tryz.func37 (by kernel_rfl) rfl #[.agg #[.int .i64 a0_0, .string a0_1, .slice A0_2 l0_2.length c0_2, .slice A0_3 l0_3.length c0_3]] rfl (by (try simp only [List.map_toArray, List.map_cons, List.map_nil]); first | done | rfl | (simp only [List.length_drop, List.length_take]; rfl)) ?_; (with_reducible refine (catalog_bytes.calls a0_0 a0_1 _ _ l0_2 _ _ l0_3 t312 _ ?side1 ?side2 ?side3 ?side4 A127.out).mono ?_); (case side1 => repeat (first | exact (Kd.C_below HR0_2.out HB.out) | (with_reducible refine Kd.C_alloc ?_ _) | (with_reducible refine Kd.C_drewN ?_ _) | (with_reducible refine Kd.C_drew ?_))); (case side2 => exact HC0_2.out); (case side3 => repeat (first | exact (Kd.C_below HR0_3.out HB.out) | (with_reducible refine Kd.C_alloc ?_ _) | (with_reducible refine Kd.C_drewN ?_ _) | (with_reducible refine Kd.C_drew ?_))); (case side4 => exact HC0_3.out); rintro e w133 ⟨v313, rfl, ho0, hb⟩; refine ⟨_, rfl, ?_⟩; have n0_ := As.mk (Kd.R_lower ho0 (bZ (by repeat (first | (with_reducible first | exact HB.out | apply bA | apply bN | apply bD | refine bS ?_ GE288.out) | exact HB.out)))); have n1_ := As.mk (kB (g := gb288) (o := .cells #[.int .i64 a0_0, .string a0_1, .slice A0_2 l0_2.length c0_2, .slice A0_3 l0_3.length c0_3] 37 (0, 0)) (by (with_reducible repeat (first | refine kN ?_ _ | refine kD ?_ | refine kA ?_ _)); exact BK288.out) hb); have n2_ := As.mk (bT (by repeat (first | (with_reducible first | exact HB.out | apply bA | apply bN | apply bD | refine bS ?_ GE288.out) | exact HB.out)) hb); clear BK288; clear HB; have HO314 := n0_; have BK288 := n1_; have HB := n2_; clear n0_ n1_ n2_; (try clear hb); (try clear hb2); (try clear hk); (try clear hi); (try clear ho0); obtain ⟨Ao134, co134, eo134⟩ := Kd.R_slice HO314.out; subst eo134))
         go_ret
         exact ⟨by first | rfl | (simp [errW_none, errW_some] <;> rfl) | (simp [*, errW_none, errW_some] <;> rfl), by repeat (first | (with_reducible first | exact HB.out | apply bA | apply bN | apply bD | refine bS ?_ GE288.out) | exact HB.out)⟩
       rw [if_pos c81] at H
       have c81b0 : decide (x100_3 < (l0_3.length : Int)) = true := decide_eq_true c81
       clear c81
       by_cases c82 : 0 ≤ x100_3
       rotate_left
       · rw [if_neg c82] at H
         exact absurd H (by simp)
       rw [if_pos c82] at H
       have c82b0 : decide (0 ≤ x100_3) = true := decide_eq_true c82
       clear c82
       by_cases c83 : x100_3 < (l0_3.length : Int)
       rotate_left
       · rw [if_neg c83] at H
         exact absurd H (by simp)
       rw [if_pos c83] at H
       have c83b0 : decide (x100_3 < (l0_3.length : Int)) = true := decide_eq_true c83
       clear c83
       obtain ⟨ji84, hji84⟩ : ∃ j_ : Int, (mn ((rd_T50 l0_3 x100_3).f0) ((rd_T50 l0_3 x100_3).f1)) = j_ := ⟨_, rfl⟩
       replace H : (if (ji84) < 0 then (some 72) else (if (mx ((rd_T50 l0_3 x100_3).f0) ((rd_T50 l0_3 x100_3).f1)) ≥ (l0_2.length : Int) then (some 72) else (if ((rd_T50 l0_3 x100_3).f0) = ((rd_T50 l0_3 x100_3).f1) then (some 72) else (if x100_3 > 0 then (if 0 ≤ (wrap64 (x100_3 - 1)) then (if (wrap64 (x100_3 - 1)) < (l0_3.length : Int) then ((catalog_behind.f ((rd_T50 l0_3 x100_3).f0) ((rd_T50 l0_3 x100_3).f1) ((rd_T50 l0_3 x100_3).f2) ((rd_T50 l0_3 (wrap64 (x100_3 - 1))).f0) ((rd_T50 l0_3 (wrap64 (x100_3 - 1))).f1) ((rd_T50 l0_3 (wrap64 (x100_3 - 1))).f2)).bind fun t311 => (if t311 = true then (catalog_Check.l1 k3 (l0_2.length : Int) l0_3 (l0_3.length : Int) (wrap64 (x100_3 + 1)) a0_0 a0_1 l0_2 l0_3) else (some 72))) else (none)) else (none)) else (catalog_Check.l1 k3 (l0_2.length : Int) l0_3 (l0_3.length : Int) (wrap64 (x100_3 + 1)) a0_0 a0_1 l0_2 l0_3))))) = some r := by first | (rw [hji84] at H; exact H) | (simp only [hji84] at H ⊢; exact H)
       have hji84_ : (if ((rd_T50 l0_3 x100_3).f1) < ((rd_T50 l0_3 x100_3).f0) then ((rd_T50 l0_3 x100_3).f1) else ((rd_T50 l0_3 x100_3).f0)) = ji84 := hji84
       by_cases c85 : (ji84) < 0
       · rw [if_pos c85] at H
         have c85b0 : decide ((ji84) < 0) = true := decide_eq_true c85
         clear c85
         obtain rfl := Option.some.inj H
         have p308 : 0 ≤ (x100_3 : Int) := of_decide_eq_true (by first | (with_reducible assumption) | assumption)
         have q308 : x100_3 < (l0_3.length : Int) := of_decide_eq_true (by first | (with_reducible assumption) | assumption)
         obtain ⟨ad308, e308, hx308_0, hx308_1, hx308_2⟩ := at_T50 HR0_3.out x100_3 p308 q308
         cases e308
         replace hx308_0 := (HB.out.cell (World.block_lt_of_cell? w _ hx308_0)).trans hx308_0
         replace hx308_1 := (HB.out.cell (World.block_lt_of_cell? w _ hx308_1)).trans hx308_1
         replace hx308_2 := (HB.out.cell (World.block_lt_of_cell? w _ hx308_2)).trans hx308_2
         replace p308 := eq_true p308
         replace q308 := eq_true q308
         try go_wp2_with (first | ((with_reducible refine gate_dst (N := 10) rfl ?_); (try (refine gate_guard (by rfl) ?_; dsimp only)); refine box_event ?hg (N := 10) ?hd (cs := #[.int .i64 0, .int .i64 0, .bool false]) (t := 50) ?hr ?_; (case hd => rfl); (case hg => rfl); (case hr => first | (go_simp; done) | (go_simp; rfl)); intro gb309 hg w86 hbox hb; have n0_ := As.mk (kB (g := gb288) (o := .cells #[.int .i64 a0_0, .string a0_1, .slice A0_2 l0_2.length c0_2, .slice (some ad308) l0_3.length c0_3] 37 (0, 0)) (by (with_reducible repeat (first | refine kN ?_ _ | refine kD ?_ | refine kA ?_ _)); exact BK288.out) hb); have n1_ := As.mk (bT (by repeat (first | (with_reducible first | exact HB.out | apply bA | apply bN | apply bD | refine bS ?_ GE288.out) | exact HB.out)) hb); have n2_ := As.mk (hbox); have n3_ := As.mk ((by rw [hg]; exact (bZ (by repeat (first | (with_reducible first | exact HB.out | apply bA | apply bN | apply bD | refine bS ?_ GE288.out) | exact HB.out))) : w.heap.size ≤ gb309)); have n4_ := As.mk ((by rw [hg]; exact (bZ (by repeat (first | (with_reducible first | exact HB.out | apply bA | apply bN | apply bD | refine bS ?_ GE288.out) | exact HB.out))) : w.heap.size ≤ gb309)); have n5_ := As.mk ((by rw [hg]; exact Nat.ne_of_lt (blk_lt (g := gb288) (o := .cells #[.int .i64 a0_0, .string a0_1, .slice A0_2 l0_2.length c0_2, .slice (some ad308) l0_3.length c0_3] 37 (0, 0)) (by (with_reducible repeat (first | refine kN ?_ _ | refine kD ?_ | refine kA ?_ _)); exact BK288.out)) : gb288 ≠ gb309)); have n6_ := As.mk ((by rw [hg]; exact Nat.ne_of_gt (blk_lt (g := gb288) (o := .cells #[.int .i64 a0_0, .string a0_1, .slice A0_2 l0_2.length c0_2, .slice (some ad308) l0_3.length c0_3] 37 (0, 0)) (by (with_reducible repeat (first | refine kN ?_ _ | refine kD ?_ | refine kA ?_ _)); exact BK288.out)) : gb309 ≠ gb288)); clear BK288; clear HB; have BK288 := n0_; have HB := n1_; have BK309 := n2_; have GW309 := n3_; have GE309 := n4_; have NB288_309 := n5_; have NB309_288 := n6_; clear n0_ n1_ n2_ n3_ n4_ n5_ n6_; clear hb hbox hg; have hnb87 := NB309_288.out; have hnc87 := NB288_309.out; have hcz88_0 : w86.cell? ⟨gb309, 0, none⟩ = some (.int .i64 0) := (kC BK309.out 0).trans rfl; have hcz88_1 : w86.cell? ⟨gb309, 1, none⟩ = some (.int .i64 0) := (kC BK309.out 1).trans rfl; have hcz88_2 : w86.cell? ⟨gb309, 2, none⟩ = some (.bool false) := (kC BK309.out 2).trans rfl; have hfz88_0 := kF BK309.out 0; have hfz88_1 := kF BK309.out 1; have hfz88_2 := kF BK309.out 2))
         have n0_ : As ((((w86.setCell ⟨gb309, 0, none⟩ (.int .i64 ((rd_T50 l0_3 x100_3).f0))).setCell ⟨gb309, 1, none⟩ (.int .i64 ((rd_T50 l0_3 x100_3).f1))).setCell ⟨gb309, 2, none⟩ (.bool ((rd_T50 l0_3 x100_3).f2))).heap[gb288]? = some (.cells #[.int .i64 a0_0, .string a0_1, .slice A0_2 l0_2.length c0_2, .slice (some ad308) l0_3.length c0_3] 37 (0, 0))) := ⟨by (with_reducible repeat (first | refine kN ?_ _ | refine kD ?_ | refine kA ?_ _)); refine kR ?_ NB288_309.out _; (with_reducible repeat (first | refine kN ?_ _ | refine kD ?_ | refine kA ?_ _)); refine kR ?_ NB288_309.out _; (with_reducible repeat (first | refine kN ?_ _ | refine kD ?_ | refine kA ?_ _)); refine kR ?_ NB288_309.out _; (with_reducible repeat (first | refine kN ?_ _ | refine kD ?_ | refine kA ?_ _)); exact BK288.out⟩
         have n1_ : As ((((w86.setCell ⟨gb309, 0, none⟩ (.int .i64 ((rd_T50 l0_3 x100_3).f0))).setCell ⟨gb309, 1, none⟩ (.int .i64 ((rd_T50 l0_3 x100_3).f1))).setCell ⟨gb309, 2, none⟩ (.bool ((rd_T50 l0_3 x100_3).f2))).heap[gb309]? = some (.cells #[.int .i64 ((rd_T50 l0_3 x100_3).f0), .int .i64 ((rd_T50 l0_3 x100_3).f1), .bool ((rd_T50 l0_3 x100_3).f2)] 50 (0, 0))) := ⟨by (with_reducible repeat (first | refine kN ?_ _ | refine kD ?_ | refine kA ?_ _)); refine kP (cs := #[.int .i64 ((rd_T50 l0_3 x100_3).f0), .int .i64 ((rd_T50 l0_3 x100_3).f1), .bool false]) ?_ 2 _ rfl; (with_reducible repeat (first | refine kN ?_ _ | refine kD ?_ | refine kA ?_ _)); refine kP (cs := #[.int .i64 ((rd_T50 l0_3 x100_3).f0), .int .i64 0, .bool false]) ?_ 1 _ rfl; (with_reducible repeat (first | refine kN ?_ _ | refine kD ?_ | refine kA ?_ _)); refine kP (cs := #[.int .i64 0, .int .i64 0, .bool false]) ?_ 0 _ rfl; (with_reducible repeat (first | refine kN ?_ _ | refine kD ?_ | refine kA ?_ _)); exact BK309.out⟩
         have n2_ : As (Below w.heap.size w (((w86.setCell ⟨gb309, 0, none⟩ (.int .i64 ((rd_T50 l0_3 x100_3).f0))).setCell ⟨gb309, 1, none⟩ (.int .i64 ((rd_T50 l0_3 x100_3).f1))).setCell ⟨gb309, 2, none⟩ (.bool ((rd_T50 l0_3 x100_3).f2)))) := ⟨by repeat (first | (with_reducible first | exact HB.out | apply bA | apply bN | apply bD | refine bS ?_ GE288.out | refine bS ?_ GE309.out) | exact HB.out)⟩
         (try clear BK288)
         (try clear BK309)
         (try clear HB)
         generalize (((w86.setCell ⟨gb309, 0, none⟩ (.int .i64 ((rd_T50 l0_3 x100_3).f0))).setCell ⟨gb309, 1, none⟩ (.int .i64 ((rd_T50 l0_3 x100_3).f1))).setCell ⟨gb309, 2, none⟩ (.bool ((rd_T50 l0_3 x100_3).f2))) = w89 at n0_ n1_ n2_ ⊢
         have BK288 := n0_
         have BK309 := n1_
         have HB := n2_
         clear n0_ n1_ n2_
         have n0_ := As.mk (kD BK288.out)
         have n1_ := As.mk (kD BK309.out)
         have n2_ := As.mk (bD HB.out)
         clear BK288
         clear BK309
         clear HB
         have BK288 := n0_
         have BK309 := n1_
         have HB := n2_
         clear n0_ n1_ n2_
         refine start_ (n := 37) (S := fun w' => w'.cell? ⟨gb309, 0, none⟩ = some (.int .i64 ((rd_T50 l0_3 x100_3).f0)) ∧ w'.cell? ⟨gb309, 1, none⟩ = some (.int .i64 ((rd_T50 l0_3 x100_3).f1)) ∧ w'.cell? ⟨gb309, 2, none⟩ = some (.bool ((rd_T50 l0_3 x100_3).f2))) (ds := []) (upB 37 0) (by kernel_rfl) rfl rfl ⟨(kC BK309.out 0).trans rfl, (kC BK309.out 1).trans rfl, (kC BK309.out 2).trans rfl⟩ (fun hHeld => ?_); refine with_tabW catalog_Check.tab23 catalog_Check.bits23 (fun HT_ HW_ => ?_)
         generalize w89.drew = w90 at BK288 BK309 HB hHeld ⊢
         refine sP_ 0 105 HT_ (v := ?_) (hy := ?_) (a' := ?_) (ha := ?_) (h := ?_); rotate_left; (intro w'; go_simp; with_reducible rfl); rotate_left; (simp only [Act.put, zA, zZ, zS, i64_w, i32_w]; rfl)
         refine sT_ 1 106 HT_ HW_ hHeld (v := ?_) (hy := ?_) (a' := ?_) (ha := ?_) (h := ?_); rotate_left; (rintro w' ⟨s0, s1, s2⟩; go_simp; with_reducible rfl); rotate_left; (simp only [Act.put, zA, zZ, zS, i64_w, i32_w]; rfl)
         refine sP_ 2 107 HT_ (v := ?_) (hy := ?_) (a' := ?_) (ha := ?_) (h := ?_); rotate_left; (intro w'; go_simp; with_reducible rfl); rotate_left; (simp only [Act.put, zA, zZ, zS, i64_w, i32_w]; rfl)
         refine sT_ 3 108 HT_ HW_ hHeld (v := ?_) (hy := ?_) (a' := ?_) (ha := ?_) (h := ?_); rotate_left; (rintro w' ⟨s0, s1, s2⟩; go_simp; with_reducible rfl); rotate_left; (simp only [Act.put, zA, zZ, zS, i64_w, i32_w]; rfl)
         refine sP_ 4 109 HT_ (v := ?_) (hy := ?_) (a' := ?_) (ha := ?_) (h := ?_); rotate_left; (intro w'; go_simp; with_reducible rfl); rotate_left; (simp only [Act.put, zA, zZ, zS, i64_w, i32_w]; rfl)
         refine sP_ 5 110 HT_ (v := ?_) (hy := ?_) (a' := ?_) (ha := ?_) (h := ?_); rotate_left; (intro w'; go_simp; with_reducible rfl); rotate_left; (simp only [Act.put, zA, zZ, zS, i64_w, i32_w]; rfl)
         refine sP_ 6 111 HT_ (v := ?_) (hy := ?_) (a' := ?_) (ha := ?_) (h := ?_); rotate_left; (intro w'; go_simp; with_reducible rfl); rotate_left; (simp only [Act.put, zA, zZ, zS, i64_w, i32_w]; rfl)
         refine sN_ 7 112 HT_ (a' := ?_) (ha := ?_) (h := ?_); rotate_left; (simp only [Act.put, zA, zZ, zS, i64_w, i32_w]; rfl)
         refine sN_ 8 113 HT_ (a' := ?_) (ha := ?_) (h := ?_); rotate_left; (simp only [Act.put, zA, zZ, zS, i64_w, i32_w]; rfl)
         refine sN_ 9 114 HT_ (a' := ?_) (ha := ?_) (h := ?_); rotate_left; (simp only [Act.put, zA, zZ, zS, i64_w, i32_w]; rfl)
         refine sN_ 10 115 HT_ (a' := ?_) (ha := ?_) (h := ?_); rotate_left; (simp only [Act.put, zA, zZ, zS, i64_w, i32_w]; rfl)
         refine sN_ 11 116 HT_ (a' := ?_) (ha := ?_) (h := ?_); rotate_left; (simp only [Act.put, zA, zZ, zS, i64_w, i32_w]; rfl)
         refine sN_ 12 117 HT_ (a' := ?_) (ha := ?_) (h := ?_); rotate_left; (simp only [Act.put, zA, zZ, zS, i64_w, i32_w]; rfl)
         refine sN_ 13 118 HT_ (a' := ?_) (ha := ?_) (h := ?_); rotate_left; (simp only [Act.put, zA, zZ, zS, i64_w, i32_w]; rfl)
         refine sP_ 14 119 HT_ (v := ?_) (hy := ?_) (a' := ?_) (ha := ?_) (h := ?_); rotate_left; (intro w'; go_simp; with_reducible rfl); rotate_left; (simp only [Act.put, zA, zZ, zS, i64_w, i32_w]; rfl)
         refine sP_ 15 120 HT_ (v := ?_) (hy := ?_) (a' := ?_) (ha := ?_) (h := ?_); rotate_left; (intro w'; go_simp; with_reducible rfl); rotate_left; (simp only [Act.put, zA, zZ, zS, i64_w, i32_w]; rfl)
         refine sN_ 16 121 HT_ (a' := ?_) (ha := ?_) (h := ?_); rotate_left; (simp only [Act.put, zA, zZ, zS, i64_w, i32_w]; rfl)
         refine sN_ 17 122 HT_ (a' := ?_) (ha := ?_) (h := ?_); rotate_left; (simp only [Act.put, zA, zZ, zS, i64_w, i32_w]; rfl)
         refine sN_ 18 123 HT_ (a' := ?_) (ha := ?_) (h := ?_); rotate_left; (simp only [Act.put, zA, zZ, zS, i64_w, i32_w]; rfl)
         refine sN_ 19 124 HT_ (a' := ?_) (ha := ?_) (h := ?_); rotate_left; (simp only [Act.put, zA, zZ, zS, i64_w, i32_w]; rfl)
         refine sN_ 20 125 HT_ (a' := ?_) (ha := ?_) (h := ?_); rotate_left; (simp only [Act.put, zA, zZ, zS, i64_w, i32_w]; rfl)
         refine sP_ 21 126 HT_ (v := ?_) (hy := ?_) (a' := ?_) (ha := ?_) (h := ?_); rotate_left; (intro w'; go_simp; with_reducible rfl); rotate_left; (simp only [Act.put, zA, zZ, zS, i64_w, i32_w]; rfl)
         refine sP_ 22 127 HT_ (v := ?_) (hy := ?_) (a' := ?_) (ha := ?_) (h := ?_); rotate_left; (intro w'; go_simp; with_reducible rfl); rotate_left; (simp only [Act.put, zA, zZ, zS, i64_w, i32_w]; rfl)
         refine sN_ 23 128 HT_ (a' := ?_) (ha := ?_) (h := ?_); rotate_left; (simp only [Act.put, zA, zZ, zS, i64_w, i32_w]; rfl)
         refine sN_ 24 129 HT_ (a' := ?_) (ha := ?_) (h := ?_); rotate_left; (simp only [Act.put, zA, zZ, zS, i64_w, i32_w]; rfl)
         refine sN_ 25 130 HT_ (a' := ?_) (ha := ?_) (h := ?_); rotate_left; (simp only [Act.put, zA, zZ, zS, i64_w, i32_w]; rfl)
         refine sN_ 26 131 HT_ (a' := ?_) (ha := ?_) (h := ?_); rotate_left; (simp only [Act.put, zA, zZ, zS, i64_w, i32_w]; rfl)
         refine sN_ 27 132 HT_ (a' := ?_) (ha := ?_) (h := ?_); rotate_left; (simp only [Act.put, zA, zZ, zS, i64_w, i32_w]; rfl)
         refine sN_ 28 133 HT_ (a' := ?_) (ha := ?_) (h := ?_); rotate_left; (simp only [Act.put, zA, zZ, zS, i64_w, i32_w]; rfl)
         refine sN_ 29 134 HT_ (a' := ?_) (ha := ?_) (h := ?_); rotate_left; (simp only [Act.put, zA, zZ, zS, i64_w, i32_w]; rfl)
         refine sN_ 30 135 HT_ (a' := ?_) (ha := ?_) (h := ?_); rotate_left; (simp only [Act.put, zA, zZ, zS, i64_w, i32_w]; rfl)
         refine sN_ 31 136 HT_ (a' := ?_) (ha := ?_) (h := ?_); rotate_left; (simp only [Act.put, zA, zZ, zS, i64_w, i32_w]; rfl)
         refine sN_ 32 137 HT_ (a' := ?_) (ha := ?_) (h := ?_); rotate_left; (simp only [Act.put, zA, zZ, zS, i64_w, i32_w]; rfl)
         refine sN_ 33 138 HT_ (a' := ?_) (ha := ?_) (h := ?_); rotate_left; (simp only [Act.put, zA, zZ, zS, i64_w, i32_w]; rfl)
         refine sN_ 34 139 HT_ (a' := ?_) (ha := ?_) (h := ?_); rotate_left; (simp only [Act.put, zA, zZ, zS, i64_w, i32_w]; rfl)
         refine sN_ 35 140 HT_ (a' := ?_) (ha := ?_) (h := ?_); rotate_left; (simp only [Act.put, zA, zZ, zS, i64_w, i32_w]; rfl)
         refine sP_ 36 141 HT_ (v := ?_) (hy := ?_) (a' := ?_) (ha := ?_) (h := ?_); rotate_left; (intro w'; go_simp; with_reducible rfl); rotate_left; (simp only [Act.put, zA, zZ, zS, i64_w, i32_w]; rfl)
         refine done_ (done_of HT_.out (by kernel_rfl)) ?_
         try go_wp2
         go_ret
         exact ⟨by first | rfl | (simp [errW_none, errW_some] <;> rfl) | (simp only [← hji84]; first | rfl | (simp [errW_none, errW_some] <;> rfl)) | (simp [*, errW_none, errW_some] <;> rfl), by repeat (first | (with_reducible first | exact HB.out | apply bA | apply bN | apply bD | refine bS ?_ GE288.out | refine bS ?_ GE309.out) | exact HB.out)⟩
       rw [if_neg c85] at H
       have c85b0 : decide ((ji84) < 0) = false := decide_eq_false c85
       clear c85
       obtain ⟨ji91, hji91⟩ : ∃ j_ : Int, (mx ((rd_T50 l0_3 x100_3).f0) ((rd_T50 l0_3 x100_3).f1)) = j_ := ⟨_, rfl⟩
       replace H : (if (ji91) ≥ (l0_2.length : Int) then (some 72) else (if ((rd_T50 l0_3 x100_3).f0) = ((rd_T50 l0_3 x100_3).f1) then (some 72) else (if x100_3 > 0 then (if 0 ≤ (wrap64 (x100_3 - 1)) then (if (wrap64 (x100_3 - 1)) < (l0_3.length : Int) then ((catalog_behind.f ((rd_T50 l0_3 x100_3).f0) ((rd_T50 l0_3 x100_3).f1) ((rd_T50 l0_3 x100_3).f2) ((rd_T50 l0_3 (wrap64 (x100_3 - 1))).f0) ((rd_T50 l0_3 (wrap64 (x100_3 - 1))).f1) ((rd_T50 l0_3 (wrap64 (x100_3 - 1))).f2)).bind fun t311 => (if t311 = true then (catalog_Check.l1 k3 (l0_2.length : Int) l0_3 (l0_3.length : Int) (wrap64 (x100_3 + 1)) a0_0 a0_1 l0_2 l0_3) else (some 72))) else (none)) else (none)) else (catalog_Check.l1 k3 (l0_2.length : Int) l0_3 (l0_3.length : Int) (wrap64 (x100_3 + 1)) a0_0 a0_1 l0_2 l0_3)))) = some r := by first | (rw [hji91] at H; exact H) | (simp only [hji91] at H ⊢; exact H)
       have hji91_ : (if ((rd_T50 l0_3 x100_3).f0) < ((rd_T50 l0_3 x100_3).f1) then ((rd_T50 l0_3 x100_3).f1) else ((rd_T50 l0_3 x100_3).f0)) = ji91 := hji91
       by_cases c92 : (ji91) ≥ (l0_2.length : Int)
       · rw [if_pos c92] at H
         have c92b0 : decide ((l0_2.length : Int) ≤ (ji91)) = true := decide_eq_true c92
         clear c92
         obtain rfl := Option.some.inj H
         have p308 : 0 ≤ (x100_3 : Int) := of_decide_eq_true (by first | (with_reducible assumption) | assumption)
         have q308 : x100_3 < (l0_3.length : Int) := of_decide_eq_true (by first | (with_reducible assumption) | assumption)
         obtain ⟨ad308, e308, hx308_0, hx308_1, hx308_2⟩ := at_T50 HR0_3.out x100_3 p308 q308
         cases e308
         replace hx308_0 := (HB.out.cell (World.block_lt_of_cell? w _ hx308_0)).trans hx308_0
         replace hx308_1 := (HB.out.cell (World.block_lt_of_cell? w _ hx308_1)).trans hx308_1
         replace hx308_2 := (HB.out.cell (World.block_lt_of_cell? w _ hx308_2)).trans hx308_2
         replace p308 := eq_true p308
         replace q308 := eq_true q308
         try go_wp2_with (first | ((with_reducible refine gate_dst (N := 10) rfl ?_); (try (refine gate_guard (by rfl) ?_; dsimp only)); refine box_event ?hg (N := 10) ?hd (cs := #[.int .i64 0, .int .i64 0, .bool false]) (t := 50) ?hr ?_; (case hd => rfl); (case hg => rfl); (case hr => first | (go_simp; done) | (go_simp; rfl)); intro gb309 hg w93 hbox hb; have n0_ := As.mk (kB (g := gb288) (o := .cells #[.int .i64 a0_0, .string a0_1, .slice A0_2 l0_2.length c0_2, .slice (some ad308) l0_3.length c0_3] 37 (0, 0)) (by (with_reducible repeat (first | refine kN ?_ _ | refine kD ?_ | refine kA ?_ _)); exact BK288.out) hb); have n1_ := As.mk (bT (by repeat (first | (with_reducible first | exact HB.out | apply bA | apply bN | apply bD | refine bS ?_ GE288.out) | exact HB.out)) hb); have n2_ := As.mk (hbox); have n3_ := As.mk ((by rw [hg]; exact (bZ (by repeat (first | (with_reducible first | exact HB.out | apply bA | apply bN | apply bD | refine bS ?_ GE288.out) | exact HB.out))) : w.heap.size ≤ gb309)); have n4_ := As.mk ((by rw [hg]; exact (bZ (by repeat (first | (with_reducible first | exact HB.out | apply bA | apply bN | apply bD | refine bS ?_ GE288.out) | exact HB.out))) : w.heap.size ≤ gb309)); have n5_ := As.mk ((by rw [hg]; exact Nat.ne_of_lt (blk_lt (g := gb288) (o := .cells #[.int .i64 a0_0, .string a0_1, .slice A0_2 l0_2.length c0_2, .slice (some ad308) l0_3.length c0_3] 37 (0, 0)) (by (with_reducible repeat (first | refine kN ?_ _ | refine kD ?_ | refine kA ?_ _)); exact BK288.out)) : gb288 ≠ gb309)); have n6_ := As.mk ((by rw [hg]; exact Nat.ne_of_gt (blk_lt (g := gb288) (o := .cells #[.int .i64 a0_0, .string a0_1, .slice A0_2 l0_2.length c0_2, .slice (some ad308) l0_3.length c0_3] 37 (0, 0)) (by (with_reducible repeat (first | refine kN ?_ _ | refine kD ?_ | refine kA ?_ _)); exact BK288.out)) : gb309 ≠ gb288)); clear BK288; clear HB; have BK288 := n0_; have HB := n1_; have BK309 := n2_; have GW309 := n3_; have GE309 := n4_; have NB288_309 := n5_; have NB309_288 := n6_; clear n0_ n1_ n2_ n3_ n4_ n5_ n6_; clear hb hbox hg; have hnb94 := NB309_288.out; have hnc94 := NB288_309.out; have hcz95_0 : w93.cell? ⟨gb309, 0, none⟩ = some (.int .i64 0) := (kC BK309.out 0).trans rfl; have hcz95_1 : w93.cell? ⟨gb309, 1, none⟩ = some (.int .i64 0) := (kC BK309.out 1).trans rfl; have hcz95_2 : w93.cell? ⟨gb309, 2, none⟩ = some (.bool false) := (kC BK309.out 2).trans rfl; have hfz95_0 := kF BK309.out 0; have hfz95_1 := kF BK309.out 1; have hfz95_2 := kF BK309.out 2))
         have n0_ : As ((((w93.setCell ⟨gb309, 0, none⟩ (.int .i64 ((rd_T50 l0_3 x100_3).f0))).setCell ⟨gb309, 1, none⟩ (.int .i64 ((rd_T50 l0_3 x100_3).f1))).setCell ⟨gb309, 2, none⟩ (.bool ((rd_T50 l0_3 x100_3).f2))).heap[gb288]? = some (.cells #[.int .i64 a0_0, .string a0_1, .slice A0_2 l0_2.length c0_2, .slice (some ad308) l0_3.length c0_3] 37 (0, 0))) := ⟨by (with_reducible repeat (first | refine kN ?_ _ | refine kD ?_ | refine kA ?_ _)); refine kR ?_ NB288_309.out _; (with_reducible repeat (first | refine kN ?_ _ | refine kD ?_ | refine kA ?_ _)); refine kR ?_ NB288_309.out _; (with_reducible repeat (first | refine kN ?_ _ | refine kD ?_ | refine kA ?_ _)); refine kR ?_ NB288_309.out _; (with_reducible repeat (first | refine kN ?_ _ | refine kD ?_ | refine kA ?_ _)); exact BK288.out⟩
         have n1_ : As ((((w93.setCell ⟨gb309, 0, none⟩ (.int .i64 ((rd_T50 l0_3 x100_3).f0))).setCell ⟨gb309, 1, none⟩ (.int .i64 ((rd_T50 l0_3 x100_3).f1))).setCell ⟨gb309, 2, none⟩ (.bool ((rd_T50 l0_3 x100_3).f2))).heap[gb309]? = some (.cells #[.int .i64 ((rd_T50 l0_3 x100_3).f0), .int .i64 ((rd_T50 l0_3 x100_3).f1), .bool ((rd_T50 l0_3 x100_3).f2)] 50 (0, 0))) := ⟨by (with_reducible repeat (first | refine kN ?_ _ | refine kD ?_ | refine kA ?_ _)); refine kP (cs := #[.int .i64 ((rd_T50 l0_3 x100_3).f0), .int .i64 ((rd_T50 l0_3 x100_3).f1), .bool false]) ?_ 2 _ rfl; (with_reducible repeat (first | refine kN ?_ _ | refine kD ?_ | refine kA ?_ _)); refine kP (cs := #[.int .i64 ((rd_T50 l0_3 x100_3).f0), .int .i64 0, .bool false]) ?_ 1 _ rfl; (with_reducible repeat (first | refine kN ?_ _ | refine kD ?_ | refine kA ?_ _)); refine kP (cs := #[.int .i64 0, .int .i64 0, .bool false]) ?_ 0 _ rfl; (with_reducible repeat (first | refine kN ?_ _ | refine kD ?_ | refine kA ?_ _)); exact BK309.out⟩
         have n2_ : As (Below w.heap.size w (((w93.setCell ⟨gb309, 0, none⟩ (.int .i64 ((rd_T50 l0_3 x100_3).f0))).setCell ⟨gb309, 1, none⟩ (.int .i64 ((rd_T50 l0_3 x100_3).f1))).setCell ⟨gb309, 2, none⟩ (.bool ((rd_T50 l0_3 x100_3).f2)))) := ⟨by repeat (first | (with_reducible first | exact HB.out | apply bA | apply bN | apply bD | refine bS ?_ GE288.out | refine bS ?_ GE309.out) | exact HB.out)⟩
         (try clear BK288)
         (try clear BK309)
         (try clear HB)
         generalize (((w93.setCell ⟨gb309, 0, none⟩ (.int .i64 ((rd_T50 l0_3 x100_3).f0))).setCell ⟨gb309, 1, none⟩ (.int .i64 ((rd_T50 l0_3 x100_3).f1))).setCell ⟨gb309, 2, none⟩ (.bool ((rd_T50 l0_3 x100_3).f2))) = w96 at n0_ n1_ n2_ ⊢
         have BK288 := n0_
         have BK309 := n1_
         have HB := n2_
         clear n0_ n1_ n2_
         have n0_ := As.mk (kD BK288.out)
         have n1_ := As.mk (kD BK309.out)
         have n2_ := As.mk (bD HB.out)
         clear BK288
         clear BK309
         clear HB
         have BK288 := n0_
         have BK309 := n1_
         have HB := n2_
         clear n0_ n1_ n2_
         refine start_ (n := 37) (S := fun w' => w'.cell? ⟨gb309, 0, none⟩ = some (.int .i64 ((rd_T50 l0_3 x100_3).f0)) ∧ w'.cell? ⟨gb309, 1, none⟩ = some (.int .i64 ((rd_T50 l0_3 x100_3).f1)) ∧ w'.cell? ⟨gb309, 2, none⟩ = some (.bool ((rd_T50 l0_3 x100_3).f2))) (ds := []) (upB 37 0) (by kernel_rfl) rfl rfl ⟨(kC BK309.out 0).trans rfl, (kC BK309.out 1).trans rfl, (kC BK309.out 2).trans rfl⟩ (fun hHeld => ?_); refine with_tabW catalog_Check.tab23 catalog_Check.bits23 (fun HT_ HW_ => ?_)
         generalize w96.drew = w97 at BK288 BK309 HB hHeld ⊢
         refine sP_ 0 105 HT_ (v := ?_) (hy := ?_) (a' := ?_) (ha := ?_) (h := ?_); rotate_left; (intro w'; go_simp; with_reducible rfl); rotate_left; (simp only [Act.put, zA, zZ, zS, i64_w, i32_w]; rfl)
         refine sT_ 1 106 HT_ HW_ hHeld (v := ?_) (hy := ?_) (a' := ?_) (ha := ?_) (h := ?_); rotate_left; (rintro w' ⟨s0, s1, s2⟩; go_simp; with_reducible rfl); rotate_left; (simp only [Act.put, zA, zZ, zS, i64_w, i32_w]; rfl)
         refine sP_ 2 107 HT_ (v := ?_) (hy := ?_) (a' := ?_) (ha := ?_) (h := ?_); rotate_left; (intro w'; go_simp; with_reducible rfl); rotate_left; (simp only [Act.put, zA, zZ, zS, i64_w, i32_w]; rfl)
         refine sT_ 3 108 HT_ HW_ hHeld (v := ?_) (hy := ?_) (a' := ?_) (ha := ?_) (h := ?_); rotate_left; (rintro w' ⟨s0, s1, s2⟩; go_simp; with_reducible rfl); rotate_left; (simp only [Act.put, zA, zZ, zS, i64_w, i32_w]; rfl)
         refine sP_ 4 109 HT_ (v := ?_) (hy := ?_) (a' := ?_) (ha := ?_) (h := ?_); rotate_left; (intro w'; go_simp; with_reducible rfl); rotate_left; (simp only [Act.put, zA, zZ, zS, i64_w, i32_w]; rfl)
         refine sP_ 5 110 HT_ (v := ?_) (hy := ?_) (a' := ?_) (ha := ?_) (h := ?_); rotate_left; (intro w'; go_simp; with_reducible rfl); rotate_left; (simp only [Act.put, zA, zZ, zS, i64_w, i32_w]; rfl)
         refine sP_ 6 111 HT_ (v := ?_) (hy := ?_) (a' := ?_) (ha := ?_) (h := ?_); rotate_left; (intro w'; go_simp; with_reducible rfl); rotate_left; (simp only [Act.put, zA, zZ, zS, i64_w, i32_w]; rfl)
         refine sP_ 7 112 HT_ (v := ?_) (hy := ?_) (a' := ?_) (ha := ?_) (h := ?_); rotate_left; (intro w'; go_simp; with_reducible rfl); rotate_left; (simp only [Act.put, zA, zZ, zS, i64_w, i32_w]; rfl)
         refine sT_ 8 113 HT_ HW_ hHeld (v := ?_) (hy := ?_) (a' := ?_) (ha := ?_) (h := ?_); rotate_left; (rintro w' ⟨s0, s1, s2⟩; go_simp; with_reducible rfl); rotate_left; (simp only [Act.put, zA, zZ, zS, i64_w, i32_w]; rfl)
         refine sP_ 9 114 HT_ (v := ?_) (hy := ?_) (a' := ?_) (ha := ?_) (h := ?_); rotate_left; (intro w'; go_simp; with_reducible rfl); rotate_left; (simp only [Act.put, zA, zZ, zS, i64_w, i32_w]; rfl)
         refine sT_ 10 115 HT_ HW_ hHeld (v := ?_) (hy := ?_) (a' := ?_) (ha := ?_) (h := ?_); rotate_left; (rintro w' ⟨s0, s1, s2⟩; go_simp; with_reducible rfl); rotate_left; (simp only [Act.put, zA, zZ, zS, i64_w, i32_w]; rfl)
         refine sP_ 11 116 HT_ (v := ?_) (hy := ?_) (a' := ?_) (ha := ?_) (h := ?_); rotate_left; (intro w'; go_simp; with_reducible rfl); rotate_left; (simp only [Act.put, zA, zZ, zS, i64_w, i32_w]; rfl)
         refine sP_ 12 117 HT_ (v := ?_) (hy := ?_) (a' := ?_) (ha := ?_) (h := ?_); rotate_left; (intro w'; go_simp; with_reducible rfl); rotate_left; (simp only [Act.put, zA, zZ, zS, i64_w, i32_w]; rfl)
         refine sP_ 13 118 HT_ (v := ?_) (hy := ?_) (a' := ?_) (ha := ?_) (h := ?_); rotate_left; (intro w'; go_simp; with_reducible rfl); rotate_left; (simp only [Act.put, zA, zZ, zS, i64_w, i32_w]; rfl)
         refine sP_ 14 119 HT_ (v := ?_) (hy := ?_) (a' := ?_) (ha := ?_) (h := ?_); rotate_left; (intro w'; go_simp; with_reducible rfl); rotate_left; (simp only [Act.put, zA, zZ, zS, i64_w, i32_w]; rfl)
         refine sP_ 15 120 HT_ (v := ?_) (hy := ?_) (a' := ?_) (ha := ?_) (h := ?_); rotate_left; (intro w'; go_simp; with_reducible rfl); rotate_left; (simp only [Act.put, zA, zZ, zS, i64_w, i32_w]; rfl)
         refine sN_ 16 121 HT_ (a' := ?_) (ha := ?_) (h := ?_); rotate_left; (simp only [Act.put, zA, zZ, zS, i64_w, i32_w]; rfl)
         refine sN_ 17 122 HT_ (a' := ?_) (ha := ?_) (h := ?_); rotate_left; (simp only [Act.put, zA, zZ, zS, i64_w, i32_w]; rfl)
         refine sN_ 18 123 HT_ (a' := ?_) (ha := ?_) (h := ?_); rotate_left; (simp only [Act.put, zA, zZ, zS, i64_w, i32_w]; rfl)
         refine sN_ 19 124 HT_ (a' := ?_) (ha := ?_) (h := ?_); rotate_left; (simp only [Act.put, zA, zZ, zS, i64_w, i32_w]; rfl)
         refine sN_ 20 125 HT_ (a' := ?_) (ha := ?_) (h := ?_); rotate_left; (simp only [Act.put, zA, zZ, zS, i64_w, i32_w]; rfl)
         refine sP_ 21 126 HT_ (v := ?_) (hy := ?_) (a' := ?_) (ha := ?_) (h := ?_); rotate_left; (intro w'; go_simp; with_reducible rfl); rotate_left; (simp only [Act.put, zA, zZ, zS, i64_w, i32_w]; rfl)
         refine sP_ 22 127 HT_ (v := ?_) (hy := ?_) (a' := ?_) (ha := ?_) (h := ?_); rotate_left; (intro w'; go_simp; with_reducible rfl); rotate_left; (simp only [Act.put, zA, zZ, zS, i64_w, i32_w]; rfl)
         refine sN_ 23 128 HT_ (a' := ?_) (ha := ?_) (h := ?_); rotate_left; (simp only [Act.put, zA, zZ, zS, i64_w, i32_w]; rfl)
         refine sN_ 24 129 HT_ (a' := ?_) (ha := ?_) (h := ?_); rotate_left; (simp only [Act.put, zA, zZ, zS, i64_w, i32_w]; rfl)
         refine sN_ 25 130 HT_ (a' := ?_) (ha := ?_) (h := ?_); rotate_left; (simp only [Act.put, zA, zZ, zS, i64_w, i32_w]; rfl)
         refine sN_ 26 131 HT_ (a' := ?_) (ha := ?_) (h := ?_); rotate_left; (simp only [Act.put, zA, zZ, zS, i64_w, i32_w]; rfl)
         refine sN_ 27 132 HT_ (a' := ?_) (ha := ?_) (h := ?_); rotate_left; (simp only [Act.put, zA, zZ, zS, i64_w, i32_w]; rfl)
         refine sN_ 28 133 HT_ (a' := ?_) (ha := ?_) (h := ?_); rotate_left; (simp only [Act.put, zA, zZ, zS, i64_w, i32_w]; rfl)
         refine sN_ 29 134 HT_ (a' := ?_) (ha := ?_) (h := ?_); rotate_left; (simp only [Act.put, zA, zZ, zS, i64_w, i32_w]; rfl)
         refine sN_ 30 135 HT_ (a' := ?_) (ha := ?_) (h := ?_); rotate_left; (simp only [Act.put, zA, zZ, zS, i64_w, i32_w]; rfl)
         refine sN_ 31 136 HT_ (a' := ?_) (ha := ?_) (h := ?_); rotate_left; (simp only [Act.put, zA, zZ, zS, i64_w, i32_w]; rfl)
         refine sN_ 32 137 HT_ (a' := ?_) (ha := ?_) (h := ?_); rotate_left; (simp only [Act.put, zA, zZ, zS, i64_w, i32_w]; rfl)
         refine sN_ 33 138 HT_ (a' := ?_) (ha := ?_) (h := ?_); rotate_left; (simp only [Act.put, zA, zZ, zS, i64_w, i32_w]; rfl)
         refine sN_ 34 139 HT_ (a' := ?_) (ha := ?_) (h := ?_); rotate_left; (simp only [Act.put, zA, zZ, zS, i64_w, i32_w]; rfl)
         refine sN_ 35 140 HT_ (a' := ?_) (ha := ?_) (h := ?_); rotate_left; (simp only [Act.put, zA, zZ, zS, i64_w, i32_w]; rfl)
         refine sP_ 36 141 HT_ (v := ?_) (hy := ?_) (a' := ?_) (ha := ?_) (h := ?_); rotate_left; (intro w'; go_simp; with_reducible rfl); rotate_left; (simp only [Act.put, zA, zZ, zS, i64_w, i32_w]; rfl)
         refine done_ (done_of HT_.out (by kernel_rfl)) ?_
         try go_wp2
         go_ret
         exact ⟨by first | rfl | (simp [errW_none, errW_some] <;> rfl) | (simp only [← hji84, ← hji91]; first | rfl | (simp [errW_none, errW_some] <;> rfl)) | (simp [*, errW_none, errW_some] <;> rfl), by repeat (first | (with_reducible first | exact HB.out | apply bA | apply bN | apply bD | refine bS ?_ GE288.out | refine bS ?_ GE309.out) | exact HB.out)⟩
       rw [if_neg c92] at H
       have c92b0 : decide ((l0_2.length : Int) ≤ (ji91)) = false := decide_eq_false c92
       clear c92
       by_cases c98 : ((rd_T50 l0_3 x100_3).f0) = ((rd_T50 l0_3 x100_3).f1)
       · rw [if_pos c98] at H
         have c98b0 : (((rd_T50 l0_3 x100_3).f0) == ((rd_T50 l0_3 x100_3).f1)) = true := beq_iff_eq.mpr c98
         have c98b1 : (((rd_T50 l0_3 x100_3).f0) != ((rd_T50 l0_3 x100_3).f1)) = false := bne_eq_false_iff_eq.mpr c98
         clear c98
         obtain rfl := Option.some.inj H
         have p308 : 0 ≤ (x100_3 : Int) := of_decide_eq_true (by first | (with_reducible assumption) | assumption)
         have q308 : x100_3 < (l0_3.length : Int) := of_decide_eq_true (by first | (with_reducible assumption) | assumption)
         obtain ⟨ad308, e308, hx308_0, hx308_1, hx308_2⟩ := at_T50 HR0_3.out x100_3 p308 q308
         cases e308
         replace hx308_0 := (HB.out.cell (World.block_lt_of_cell? w _ hx308_0)).trans hx308_0
         replace hx308_1 := (HB.out.cell (World.block_lt_of_cell? w _ hx308_1)).trans hx308_1
         replace hx308_2 := (HB.out.cell (World.block_lt_of_cell? w _ hx308_2)).trans hx308_2
         replace p308 := eq_true p308
         replace q308 := eq_true q308
         try go_wp2_with (first | ((with_reducible refine gate_dst (N := 10) rfl ?_); (try (refine gate_guard (by rfl) ?_; dsimp only)); refine box_event ?hg (N := 10) ?hd (cs := #[.int .i64 0, .int .i64 0, .bool false]) (t := 50) ?hr ?_; (case hd => rfl); (case hg => rfl); (case hr => first | (go_simp; done) | (go_simp; rfl)); intro gb309 hg w99 hbox hb; have n0_ := As.mk (kB (g := gb288) (o := .cells #[.int .i64 a0_0, .string a0_1, .slice A0_2 l0_2.length c0_2, .slice (some ad308) l0_3.length c0_3] 37 (0, 0)) (by (with_reducible repeat (first | refine kN ?_ _ | refine kD ?_ | refine kA ?_ _)); exact BK288.out) hb); have n1_ := As.mk (bT (by repeat (first | (with_reducible first | exact HB.out | apply bA | apply bN | apply bD | refine bS ?_ GE288.out) | exact HB.out)) hb); have n2_ := As.mk (hbox); have n3_ := As.mk ((by rw [hg]; exact (bZ (by repeat (first | (with_reducible first | exact HB.out | apply bA | apply bN | apply bD | refine bS ?_ GE288.out) | exact HB.out))) : w.heap.size ≤ gb309)); have n4_ := As.mk ((by rw [hg]; exact (bZ (by repeat (first | (with_reducible first | exact HB.out | apply bA | apply bN | apply bD | refine bS ?_ GE288.out) | exact HB.out))) : w.heap.size ≤ gb309)); have n5_ := As.mk ((by rw [hg]; exact Nat.ne_of_lt (blk_lt (g := gb288) (o := .cells #[.int .i64 a0_0, .string a0_1, .slice A0_2 l0_2.length c0_2, .slice (some ad308) l0_3.length c0_3] 37 (0, 0)) (by (with_reducible repeat (first | refine kN ?_ _ | refine kD ?_ | refine kA ?_ _)); exact BK288.out)) : gb288 ≠ gb309)); have n6_ := As.mk ((by rw [hg]; exact Nat.ne_of_gt (blk_lt (g := gb288) (o := .cells #[.int .i64 a0_0, .string a0_1, .slice A0_2 l0_2.length c0_2, .slice (some ad308) l0_3.length c0_3] 37 (0, 0)) (by (with_reducible repeat (first | refine kN ?_ _ | refine kD ?_ | refine kA ?_ _)); exact BK288.out)) : gb309 ≠ gb288)); clear BK288; clear HB; have BK288 := n0_; have HB := n1_; have BK309 := n2_; have GW309 := n3_; have GE309 := n4_; have NB288_309 := n5_; have NB309_288 := n6_; clear n0_ n1_ n2_ n3_ n4_ n5_ n6_; clear hb hbox hg; have hnb100 := NB309_288.out; have hnc100 := NB288_309.out; have hcz101_0 : w99.cell? ⟨gb309, 0, none⟩ = some (.int .i64 0) := (kC BK309.out 0).trans rfl; have hcz101_1 : w99.cell? ⟨gb309, 1, none⟩ = some (.int .i64 0) := (kC BK309.out 1).trans rfl; have hcz101_2 : w99.cell? ⟨gb309, 2, none⟩ = some (.bool false) := (kC BK309.out 2).trans rfl; have hfz101_0 := kF BK309.out 0; have hfz101_1 := kF BK309.out 1; have hfz101_2 := kF BK309.out 2))
         have n0_ : As ((((w99.setCell ⟨gb309, 0, none⟩ (.int .i64 ((rd_T50 l0_3 x100_3).f0))).setCell ⟨gb309, 1, none⟩ (.int .i64 ((rd_T50 l0_3 x100_3).f1))).setCell ⟨gb309, 2, none⟩ (.bool ((rd_T50 l0_3 x100_3).f2))).heap[gb288]? = some (.cells #[.int .i64 a0_0, .string a0_1, .slice A0_2 l0_2.length c0_2, .slice (some ad308) l0_3.length c0_3] 37 (0, 0))) := ⟨by (with_reducible repeat (first | refine kN ?_ _ | refine kD ?_ | refine kA ?_ _)); refine kR ?_ NB288_309.out _; (with_reducible repeat (first | refine kN ?_ _ | refine kD ?_ | refine kA ?_ _)); refine kR ?_ NB288_309.out _; (with_reducible repeat (first | refine kN ?_ _ | refine kD ?_ | refine kA ?_ _)); refine kR ?_ NB288_309.out _; (with_reducible repeat (first | refine kN ?_ _ | refine kD ?_ | refine kA ?_ _)); exact BK288.out⟩
         have n1_ : As ((((w99.setCell ⟨gb309, 0, none⟩ (.int .i64 ((rd_T50 l0_3 x100_3).f0))).setCell ⟨gb309, 1, none⟩ (.int .i64 ((rd_T50 l0_3 x100_3).f1))).setCell ⟨gb309, 2, none⟩ (.bool ((rd_T50 l0_3 x100_3).f2))).heap[gb309]? = some (.cells #[.int .i64 ((rd_T50 l0_3 x100_3).f0), .int .i64 ((rd_T50 l0_3 x100_3).f1), .bool ((rd_T50 l0_3 x100_3).f2)] 50 (0, 0))) := ⟨by (with_reducible repeat (first | refine kN ?_ _ | refine kD ?_ | refine kA ?_ _)); refine kP (cs := #[.int .i64 ((rd_T50 l0_3 x100_3).f0), .int .i64 ((rd_T50 l0_3 x100_3).f1), .bool false]) ?_ 2 _ rfl; (with_reducible repeat (first | refine kN ?_ _ | refine kD ?_ | refine kA ?_ _)); refine kP (cs := #[.int .i64 ((rd_T50 l0_3 x100_3).f0), .int .i64 0, .bool false]) ?_ 1 _ rfl; (with_reducible repeat (first | refine kN ?_ _ | refine kD ?_ | refine kA ?_ _)); refine kP (cs := #[.int .i64 0, .int .i64 0, .bool false]) ?_ 0 _ rfl; (with_reducible repeat (first | refine kN ?_ _ | refine kD ?_ | refine kA ?_ _)); exact BK309.out⟩
         have n2_ : As (Below w.heap.size w (((w99.setCell ⟨gb309, 0, none⟩ (.int .i64 ((rd_T50 l0_3 x100_3).f0))).setCell ⟨gb309, 1, none⟩ (.int .i64 ((rd_T50 l0_3 x100_3).f1))).setCell ⟨gb309, 2, none⟩ (.bool ((rd_T50 l0_3 x100_3).f2)))) := ⟨by repeat (first | (with_reducible first | exact HB.out | apply bA | apply bN | apply bD | refine bS ?_ GE288.out | refine bS ?_ GE309.out) | exact HB.out)⟩
         (try clear BK288)
         (try clear BK309)
         (try clear HB)
         generalize (((w99.setCell ⟨gb309, 0, none⟩ (.int .i64 ((rd_T50 l0_3 x100_3).f0))).setCell ⟨gb309, 1, none⟩ (.int .i64 ((rd_T50 l0_3 x100_3).f1))).setCell ⟨gb309, 2, none⟩ (.bool ((rd_T50 l0_3 x100_3).f2))) = w102 at n0_ n1_ n2_ ⊢
         have BK288 := n0_
         have BK309 := n1_
         have HB := n2_
         clear n0_ n1_ n2_
         have n0_ := As.mk (kD BK288.out)
         have n1_ := As.mk (kD BK309.out)
         have n2_ := As.mk (bD HB.out)
         clear BK288
         clear BK309
         clear HB
         have BK288 := n0_
         have BK309 := n1_
         have HB := n2_
         clear n0_ n1_ n2_
         refine start_ (n := 37) (S := fun w' => w'.cell? ⟨gb309, 0, none⟩ = some (.int .i64 ((rd_T50 l0_3 x100_3).f0)) ∧ w'.cell? ⟨gb309, 1, none⟩ = some (.int .i64 ((rd_T50 l0_3 x100_3).f1)) ∧ w'.cell? ⟨gb309, 2, none⟩ = some (.bool ((rd_T50 l0_3 x100_3).f2))) (ds := []) (upB 37 0) (by kernel_rfl) rfl rfl ⟨(kC BK309.out 0).trans rfl, (kC BK309.out 1).trans rfl, (kC BK309.out 2).trans rfl⟩ (fun hHeld => ?_); refine with_tabW catalog_Check.tab23 catalog_Check.bits23 (fun HT_ HW_ => ?_)
         generalize w102.drew = w103 at BK288 BK309 HB hHeld ⊢
         refine sP_ 0 105 HT_ (v := ?_) (hy := ?_) (a' := ?_) (ha := ?_) (h := ?_); rotate_left; (intro w'; go_simp; with_reducible rfl); rotate_left; (simp only [Act.put, zA, zZ, zS, i64_w, i32_w]; rfl)
         refine sT_ 1 106 HT_ HW_ hHeld (v := ?_) (hy := ?_) (a' := ?_) (ha := ?_) (h := ?_); rotate_left; (rintro w' ⟨s0, s1, s2⟩; go_simp; with_reducible rfl); rotate_left; (simp only [Act.put, zA, zZ, zS, i64_w, i32_w]; rfl)
         refine sP_ 2 107 HT_ (v := ?_) (hy := ?_) (a' := ?_) (ha := ?_) (h := ?_); rotate_left; (intro w'; go_simp; with_reducible rfl); rotate_left; (simp only [Act.put, zA, zZ, zS, i64_w, i32_w]; rfl)
         refine sT_ 3 108 HT_ HW_ hHeld (v := ?_) (hy := ?_) (a' := ?_) (ha := ?_) (h := ?_); rotate_left; (rintro w' ⟨s0, s1, s2⟩; go_simp; with_reducible rfl); rotate_left; (simp only [Act.put, zA, zZ, zS, i64_w, i32_w]; rfl)
         refine sP_ 4 109 HT_ (v := ?_) (hy := ?_) (a' := ?_) (ha := ?_) (h := ?_); rotate_left; (intro w'; go_simp; with_reducible rfl); rotate_left; (simp only [Act.put, zA, zZ, zS, i64_w, i32_w]; rfl)
         refine sP_ 5 110 HT_ (v := ?_) (hy := ?_) (a' := ?_) (ha := ?_) (h := ?_); rotate_left; (intro w'; go_simp; with_reducible rfl); rotate_left; (simp only [Act.put, zA, zZ, zS, i64_w, i32_w]; rfl)
         refine sP_ 6 111 HT_ (v := ?_) (hy := ?_) (a' := ?_) (ha := ?_) (h := ?_); rotate_left; (intro w'; go_simp; with_reducible rfl); rotate_left; (simp only [Act.put, zA, zZ, zS, i64_w, i32_w]; rfl)
         refine sP_ 7 112 HT_ (v := ?_) (hy := ?_) (a' := ?_) (ha := ?_) (h := ?_); rotate_left; (intro w'; go_simp; with_reducible rfl); rotate_left; (simp only [Act.put, zA, zZ, zS, i64_w, i32_w]; rfl)
         refine sT_ 8 113 HT_ HW_ hHeld (v := ?_) (hy := ?_) (a' := ?_) (ha := ?_) (h := ?_); rotate_left; (rintro w' ⟨s0, s1, s2⟩; go_simp; with_reducible rfl); rotate_left; (simp only [Act.put, zA, zZ, zS, i64_w, i32_w]; rfl)
         refine sP_ 9 114 HT_ (v := ?_) (hy := ?_) (a' := ?_) (ha := ?_) (h := ?_); rotate_left; (intro w'; go_simp; with_reducible rfl); rotate_left; (simp only [Act.put, zA, zZ, zS, i64_w, i32_w]; rfl)
         refine sT_ 10 115 HT_ HW_ hHeld (v := ?_) (hy := ?_) (a' := ?_) (ha := ?_) (h := ?_); rotate_left; (rintro w' ⟨s0, s1, s2⟩; go_simp; with_reducible rfl); rotate_left; (simp only [Act.put, zA, zZ, zS, i64_w, i32_w]; rfl)
         refine sP_ 11 116 HT_ (v := ?_) (hy := ?_) (a' := ?_) (ha := ?_) (h := ?_); rotate_left; (intro w'; go_simp; with_reducible rfl); rotate_left; (simp only [Act.put, zA, zZ, zS, i64_w, i32_w]; rfl)
         refine sP_ 12 117 HT_ (v := ?_) (hy := ?_) (a' := ?_) (ha := ?_) (h := ?_); rotate_left; (intro w'; go_simp; with_reducible rfl); rotate_left; (simp only [Act.put, zA, zZ, zS, i64_w, i32_w]; rfl)
         refine sP_ 13 118 HT_ (v := ?_) (hy := ?_) (a' := ?_) (ha := ?_) (h := ?_); rotate_left; (intro w'; go_simp; with_reducible rfl); rotate_left; (simp only [Act.put, zA, zZ, zS, i64_w, i32_w]; rfl)
         refine sP_ 14 119 HT_ (v := ?_) (hy := ?_) (a' := ?_) (ha := ?_) (h := ?_); rotate_left; (intro w'; go_simp; with_reducible rfl); rotate_left; (simp only [Act.put, zA, zZ, zS, i64_w, i32_w]; rfl)
         refine sP_ 15 120 HT_ (v := ?_) (hy := ?_) (a' := ?_) (ha := ?_) (h := ?_); rotate_left; (intro w'; go_simp; with_reducible rfl); rotate_left; (simp only [Act.put, zA, zZ, zS, i64_w, i32_w]; rfl)
         refine sP_ 16 121 HT_ (v := ?_) (hy := ?_) (a' := ?_) (ha := ?_) (h := ?_); rotate_left; (intro w'; go_simp; with_reducible rfl); rotate_left; (simp only [Act.put, zA, zZ, zS, i64_w, i32_w]; rfl)
         refine sT_ 17 122 HT_ HW_ hHeld (v := ?_) (hy := ?_) (a' := ?_) (ha := ?_) (h := ?_); rotate_left; (rintro w' ⟨s0, s1, s2⟩; go_simp; with_reducible rfl); rotate_left; (simp only [Act.put, zA, zZ, zS, i64_w, i32_w]; rfl)
         refine sP_ 18 123 HT_ (v := ?_) (hy := ?_) (a' := ?_) (ha := ?_) (h := ?_); rotate_left; (intro w'; go_simp; with_reducible rfl); rotate_left; (simp only [Act.put, zA, zZ, zS, i64_w, i32_w]; rfl)
         refine sT_ 19 124 HT_ HW_ hHeld (v := ?_) (hy := ?_) (a' := ?_) (ha := ?_) (h := ?_); rotate_left; (rintro w' ⟨s0, s1, s2⟩; go_simp; with_reducible rfl); rotate_left; (simp only [Act.put, zA, zZ, zS, i64_w, i32_w]; rfl)
         refine sP_ 20 125 HT_ (v := ?_) (hy := ?_) (a' := ?_) (ha := ?_) (h := ?_); rotate_left; (intro w'; go_simp; with_reducible rfl); rotate_left; (simp only [Act.put, zA, zZ, zS, i64_w, i32_w]; rfl)
         refine sP_ 21 126 HT_ (v := ?_) (hy := ?_) (a' := ?_) (ha := ?_) (h := ?_); rotate_left; (intro w'; go_simp; with_reducible rfl); rotate_left; (simp only [Act.put, zA, zZ, zS, i64_w, i32_w]; rfl)
         refine sP_ 22 127 HT_ (v := ?_) (hy := ?_) (a' := ?_) (ha := ?_) (h := ?_); rotate_left; (intro w'; go_simp; with_reducible rfl); rotate_left; (simp only [Act.put, zA, zZ, zS, i64_w, i32_w]; rfl)
         refine sN_ 23 128 HT_ (a' := ?_) (ha := ?_) (h := ?_); rotate_left; (simp only [Act.put, zA, zZ, zS, i64_w, i32_w]; rfl)
         refine sN_ 24 129 HT_ (a' := ?_) (ha := ?_) (h := ?_); rotate_left; (simp only [Act.put, zA, zZ, zS, i64_w, i32_w]; rfl)
         refine sN_ 25 130 HT_ (a' := ?_) (ha := ?_) (h := ?_); rotate_left; (simp only [Act.put, zA, zZ, zS, i64_w, i32_w]; rfl)
         refine sN_ 26 131 HT_ (a' := ?_) (ha := ?_) (h := ?_); rotate_left; (simp only [Act.put, zA, zZ, zS, i64_w, i32_w]; rfl)
         refine sN_ 27 132 HT_ (a' := ?_) (ha := ?_) (h := ?_); rotate_left; (simp only [Act.put, zA, zZ, zS, i64_w, i32_w]; rfl)
         refine sN_ 28 133 HT_ (a' := ?_) (ha := ?_) (h := ?_); rotate_left; (simp only [Act.put, zA, zZ, zS, i64_w, i32_w]; rfl)
         refine sN_ 29 134 HT_ (a' := ?_) (ha := ?_) (h := ?_); rotate_left; (simp only [Act.put, zA, zZ, zS, i64_w, i32_w]; rfl)
         refine sN_ 30 135 HT_ (a' := ?_) (ha := ?_) (h := ?_); rotate_left; (simp only [Act.put, zA, zZ, zS, i64_w, i32_w]; rfl)
         refine sN_ 31 136 HT_ (a' := ?_) (ha := ?_) (h := ?_); rotate_left; (simp only [Act.put, zA, zZ, zS, i64_w, i32_w]; rfl)
         refine sN_ 32 137 HT_ (a' := ?_) (ha := ?_) (h := ?_); rotate_left; (simp only [Act.put, zA, zZ, zS, i64_w, i32_w]; rfl)
         refine sN_ 33 138 HT_ (a' := ?_) (ha := ?_) (h := ?_); rotate_left; (simp only [Act.put, zA, zZ, zS, i64_w, i32_w]; rfl)
         refine sN_ 34 139 HT_ (a' := ?_) (ha := ?_) (h := ?_); rotate_left; (simp only [Act.put, zA, zZ, zS, i64_w, i32_w]; rfl)
         refine sN_ 35 140 HT_ (a' := ?_) (ha := ?_) (h := ?_); rotate_left; (simp only [Act.put, zA, zZ, zS, i64_w, i32_w]; rfl)
         refine sP_ 36 141 HT_ (v := ?_) (hy := ?_) (a' := ?_) (ha := ?_) (h := ?_); rotate_left; (intro w'; go_simp; with_reducible rfl); rotate_left; (simp only [Act.put, zA, zZ, zS, i64_w, i32_w]; rfl)
         refine done_ (done_of HT_.out (by kernel_rfl)) ?_
         try go_wp2
         go_ret
         exact ⟨by first | rfl | (simp [errW_none, errW_some] <;> rfl) | (simp only [← hji84, ← hji91]; first | rfl | (simp [errW_none, errW_some] <;> rfl)) | (simp [*, errW_none, errW_some] <;> rfl), by repeat (first | (with_reducible first | exact HB.out | apply bA | apply bN | apply bD | refine bS ?_ GE288.out | refine bS ?_ GE309.out) | exact HB.out)⟩
       rw [if_neg c98] at H
       have c98b0 : (((rd_T50 l0_3 x100_3).f0) == ((rd_T50 l0_3 x100_3).f1)) = false := beq_eq_false_iff_ne.mpr c98
       have c98b1 : (((rd_T50 l0_3 x100_3).f0) != ((rd_T50 l0_3 x100_3).f1)) = true := bne_iff_ne.mpr c98
       by_cases c104 : x100_3 > 0
       rotate_left
       · rw [if_neg c104] at H
         have c104b0 : decide (0 < x100_3) = false := decide_eq_false c104
         clear c104
         have H' := As.mk H
         clear H
         have p308 : 0 ≤ (x100_3 : Int) := of_decide_eq_true (by first | (with_reducible assumption) | assumption)
         have q308 : x100_3 < (l0_3.length : Int) := of_decide_eq_true (by first | (with_reducible assumption) | assumption)
         obtain ⟨ad308, e308, hx308_0, hx308_1, hx308_2⟩ := at_T50 HR0_3.out x100_3 p308 q308
         cases e308
         replace hx308_0 := (HB.out.cell (World.block_lt_of_cell? w _ hx308_0)).trans hx308_0
         replace hx308_1 := (HB.out.cell (World.block_lt_of_cell? w _ hx308_1)).trans hx308_1
         replace hx308_2 := (HB.out.cell (World.block_lt_of_cell? w _ hx308_2)).trans hx308_2
         replace p308 := eq_true p308
         replace q308 := eq_true q308
         try go_wp2_with (first | ((with_reducible refine gate_dst (N := 10) rfl ?_); (try (refine gate_guard (by rfl) ?_; dsimp only)); refine box_event ?hg (N := 10) ?hd (cs := #[.int .i64 0, .int .i64 0, .bool false]) (t := 50) ?hr ?_; (case hd => rfl); (case hg => rfl); (case hr => first | (go_simp; done) | (go_simp; rfl)); intro gb309 hg w122 hbox hb; have n0_ := As.mk (kB (g := gb288) (o := .cells #[.int .i64 a0_0, .string a0_1, .slice A0_2 l0_2.length c0_2, .slice (some ad308) l0_3.length c0_3] 37 (0, 0)) (by (with_reducible repeat (first | refine kN ?_ _ | refine kD ?_ | refine kA ?_ _)); exact BK288.out) hb); have n1_ := As.mk (bT (by repeat (first | (with_reducible first | exact HB.out | apply bA | apply bN | apply bD | refine bS ?_ GE288.out) | exact HB.out)) hb); have n2_ := As.mk (hbox); have n3_ := As.mk ((by rw [hg]; exact (bZ (by repeat (first | (with_reducible first | exact HB.out | apply bA | apply bN | apply bD | refine bS ?_ GE288.out) | exact HB.out))) : w.heap.size ≤ gb309)); have n4_ := As.mk ((by rw [hg]; exact (bZ (by repeat (first | (with_reducible first | exact HB.out | apply bA | apply bN | apply bD | refine bS ?_ GE288.out) | exact HB.out))) : w.heap.size ≤ gb309)); have n5_ := As.mk ((by rw [hg]; exact Nat.ne_of_lt (blk_lt (g := gb288) (o := .cells #[.int .i64 a0_0, .string a0_1, .slice A0_2 l0_2.length c0_2, .slice (some ad308) l0_3.length c0_3] 37 (0, 0)) (by (with_reducible repeat (first | refine kN ?_ _ | refine kD ?_ | refine kA ?_ _)); exact BK288.out)) : gb288 ≠ gb309)); have n6_ := As.mk ((by rw [hg]; exact Nat.ne_of_gt (blk_lt (g := gb288) (o := .cells #[.int .i64 a0_0, .string a0_1, .slice A0_2 l0_2.length c0_2, .slice (some ad308) l0_3.length c0_3] 37 (0, 0)) (by (with_reducible repeat (first | refine kN ?_ _ | refine kD ?_ | refine kA ?_ _)); exact BK288.out)) : gb309 ≠ gb288)); clear BK288; clear HB; have BK288 := n0_; have HB := n1_; have BK309 := n2_; have GW309 := n3_; have GE309 := n4_; have NB288_309 := n5_; have NB309_288 := n6_; clear n0_ n1_ n2_ n3_ n4_ n5_ n6_; clear hb hbox hg; have hnb123 := NB309_288.out; have hnc123 := NB288_309.out; have hcz124_0 : w122.cell? ⟨gb309, 0, none⟩ = some (.int .i64 0) := (kC BK309.out 0).trans rfl; have hcz124_1 : w122.cell? ⟨gb309, 1, none⟩ = some (.int .i64 0) := (kC BK309.out 1).trans rfl; have hcz124_2 : w122.cell? ⟨gb309, 2, none⟩ = some (.bool false) := (kC BK309.out 2).trans rfl; have hfz124_0 := kF BK309.out 0; have hfz124_1 := kF BK309.out 1; have hfz124_2 := kF BK309.out 2))
         have n0_ : As ((((w122.setCell ⟨gb309, 0, none⟩ (.int .i64 ((rd_T50 l0_3 x100_3).f0))).setCell ⟨gb309, 1, none⟩ (.int .i64 ((rd_T50 l0_3 x100_3).f1))).setCell ⟨gb309, 2, none⟩ (.bool ((rd_T50 l0_3 x100_3).f2))).heap[gb288]? = some (.cells #[.int .i64 a0_0, .string a0_1, .slice A0_2 l0_2.length c0_2, .slice (some ad308) l0_3.length c0_3] 37 (0, 0))) := ⟨by (with_reducible repeat (first | refine kN ?_ _ | refine kD ?_ | refine kA ?_ _)); refine kR ?_ NB288_309.out _; (with_reducible repeat (first | refine kN ?_ _ | refine kD ?_ | refine kA ?_ _)); refine kR ?_ NB288_309.out _; (with_reducible repeat (first | refine kN ?_ _ | refine kD ?_ | refine kA ?_ _)); refine kR ?_ NB288_309.out _; (with_reducible repeat (first | refine kN ?_ _ | refine kD ?_ | refine kA ?_ _)); exact BK288.out⟩
         have n1_ : As ((((w122.setCell ⟨gb309, 0, none⟩ (.int .i64 ((rd_T50 l0_3 x100_3).f0))).setCell ⟨gb309, 1, none⟩ (.int .i64 ((rd_T50 l0_3 x100_3).f1))).setCell ⟨gb309, 2, none⟩ (.bool ((rd_T50 l0_3 x100_3).f2))).heap[gb309]? = some (.cells #[.int .i64 ((rd_T50 l0_3 x100_3).f0), .int .i64 ((rd_T50 l0_3 x100_3).f1), .bool ((rd_T50 l0_3 x100_3).f2)] 50 (0, 0))) := ⟨by (with_reducible repeat (first | refine kN ?_ _ | refine kD ?_ | refine kA ?_ _)); refine kP (cs := #[.int .i64 ((rd_T50 l0_3 x100_3).f0), .int .i64 ((rd_T50 l0_3 x100_3).f1), .bool false]) ?_ 2 _ rfl; (with_reducible repeat (first | refine kN ?_ _ | refine kD ?_ | refine kA ?_ _)); refine kP (cs := #[.int .i64 ((rd_T50 l0_3 x100_3).f0), .int .i64 0, .bool false]) ?_ 1 _ rfl; (with_reducible repeat (first | refine kN ?_ _ | refine kD ?_ | refine kA ?_ _)); refine kP (cs := #[.int .i64 0, .int .i64 0, .bool false]) ?_ 0 _ rfl; (with_reducible repeat (first | refine kN ?_ _ | refine kD ?_ | refine kA ?_ _)); exact BK309.out⟩
         have n2_ : As (Below w.heap.size w (((w122.setCell ⟨gb309, 0, none⟩ (.int .i64 ((rd_T50 l0_3 x100_3).f0))).setCell ⟨gb309, 1, none⟩ (.int .i64 ((rd_T50 l0_3 x100_3).f1))).setCell ⟨gb309, 2, none⟩ (.bool ((rd_T50 l0_3 x100_3).f2)))) := ⟨by repeat (first | (with_reducible first | exact HB.out | apply bA | apply bN | apply bD | refine bS ?_ GE288.out | refine bS ?_ GE309.out) | exact HB.out)⟩
         (try clear BK288)
         (try clear BK309)
         (try clear HB)
         generalize (((w122.setCell ⟨gb309, 0, none⟩ (.int .i64 ((rd_T50 l0_3 x100_3).f0))).setCell ⟨gb309, 1, none⟩ (.int .i64 ((rd_T50 l0_3 x100_3).f1))).setCell ⟨gb309, 2, none⟩ (.bool ((rd_T50 l0_3 x100_3).f2))) = w125 at n0_ n1_ n2_ ⊢
         have BK288 := n0_
         have BK309 := n1_
         have HB := n2_
         clear n0_ n1_ n2_
         have n0_ := As.mk (kD BK288.out)
         have n1_ := As.mk (kD BK309.out)
         have n2_ := As.mk (bD HB.out)
         clear BK288
         clear BK309
         clear HB
         have BK288 := n0_
         have BK309 := n1_
         have HB := n2_
         clear n0_ n1_ n2_
         refine start_ (n := 37) (S := fun w' => w'.cell? ⟨gb309, 0, none⟩ = some (.int .i64 ((rd_T50 l0_3 x100_3).f0)) ∧ w'.cell? ⟨gb309, 1, none⟩ = some (.int .i64 ((rd_T50 l0_3 x100_3).f1)) ∧ w'.cell? ⟨gb309, 2, none⟩ = some (.bool ((rd_T50 l0_3 x100_3).f2))) (ds := []) (upB 37 0) (by kernel_rfl) rfl rfl ⟨(kC BK309.out 0).trans rfl, (kC BK309.out 1).trans rfl, (kC BK309.out 2).trans rfl⟩ (fun hHeld => ?_); refine with_tabW catalog_Check.tab23 catalog_Check.bits23 (fun HT_ HW_ => ?_)
         generalize w125.drew = w126 at BK288 BK309 HB hHeld ⊢
         refine sP_ 0 105 HT_ (v := ?_) (hy := ?_) (a' := ?_) (ha := ?_) (h := ?_); rotate_left; (intro w'; go_simp; with_reducible rfl); rotate_left; (simp only [Act.put, zA, zZ, zS, i64_w, i32_w]; rfl)
         refine sT_ 1 106 HT_ HW_ hHeld (v := ?_) (hy := ?_) (a' := ?_) (ha := ?_) (h := ?_); rotate_left; (rintro w' ⟨s0, s1, s2⟩; go_simp; with_reducible rfl); rotate_left; (simp only [Act.put, zA, zZ, zS, i64_w, i32_w]; rfl)
         refine sP_ 2 107 HT_ (v := ?_) (hy := ?_) (a' := ?_) (ha := ?_) (h := ?_); rotate_left; (intro w'; go_simp; with_reducible rfl); rotate_left; (simp only [Act.put, zA, zZ, zS, i64_w, i32_w]; rfl)
         refine sT_ 3 108 HT_ HW_ hHeld (v := ?_) (hy := ?_) (a' := ?_) (ha := ?_) (h := ?_); rotate_left; (rintro w' ⟨s0, s1, s2⟩; go_simp; with_reducible rfl); rotate_left; (simp only [Act.put, zA, zZ, zS, i64_w, i32_w]; rfl)
         refine sP_ 4 109 HT_ (v := ?_) (hy := ?_) (a' := ?_) (ha := ?_) (h := ?_); rotate_left; (intro w'; go_simp; with_reducible rfl); rotate_left; (simp only [Act.put, zA, zZ, zS, i64_w, i32_w]; rfl)
         refine sP_ 5 110 HT_ (v := ?_) (hy := ?_) (a' := ?_) (ha := ?_) (h := ?_); rotate_left; (intro w'; go_simp; with_reducible rfl); rotate_left; (simp only [Act.put, zA, zZ, zS, i64_w, i32_w]; rfl)
         refine sP_ 6 111 HT_ (v := ?_) (hy := ?_) (a' := ?_) (ha := ?_) (h := ?_); rotate_left; (intro w'; go_simp; with_reducible rfl); rotate_left; (simp only [Act.put, zA, zZ, zS, i64_w, i32_w]; rfl)
         refine sP_ 7 112 HT_ (v := ?_) (hy := ?_) (a' := ?_) (ha := ?_) (h := ?_); rotate_left; (intro w'; go_simp; with_reducible rfl); rotate_left; (simp only [Act.put, zA, zZ, zS, i64_w, i32_w]; rfl)
         refine sT_ 8 113 HT_ HW_ hHeld (v := ?_) (hy := ?_) (a' := ?_) (ha := ?_) (h := ?_); rotate_left; (rintro w' ⟨s0, s1, s2⟩; go_simp; with_reducible rfl); rotate_left; (simp only [Act.put, zA, zZ, zS, i64_w, i32_w]; rfl)
         refine sP_ 9 114 HT_ (v := ?_) (hy := ?_) (a' := ?_) (ha := ?_) (h := ?_); rotate_left; (intro w'; go_simp; with_reducible rfl); rotate_left; (simp only [Act.put, zA, zZ, zS, i64_w, i32_w]; rfl)
         refine sT_ 10 115 HT_ HW_ hHeld (v := ?_) (hy := ?_) (a' := ?_) (ha := ?_) (h := ?_); rotate_left; (rintro w' ⟨s0, s1, s2⟩; go_simp; with_reducible rfl); rotate_left; (simp only [Act.put, zA, zZ, zS, i64_w, i32_w]; rfl)
         refine sP_ 11 116 HT_ (v := ?_) (hy := ?_) (a' := ?_) (ha := ?_) (h := ?_); rotate_left; (intro w'; go_simp; with_reducible rfl); rotate_left; (simp only [Act.put, zA, zZ, zS, i64_w, i32_w]; rfl)
         refine sP_ 12 117 HT_ (v := ?_) (hy := ?_) (a' := ?_) (ha := ?_) (h := ?_); rotate_left; (intro w'; go_simp; with_reducible rfl); rotate_left; (simp only [Act.put, zA, zZ, zS, i64_w, i32_w]; rfl)
         refine sP_ 13 118 HT_ (v := ?_) (hy := ?_) (a' := ?_) (ha := ?_) (h := ?_); rotate_left; (intro w'; go_simp; with_reducible rfl); rotate_left; (simp only [Act.put, zA, zZ, zS, i64_w, i32_w]; rfl)
         refine sP_ 14 119 HT_ (v := ?_) (hy := ?_) (a' := ?_) (ha := ?_) (h := ?_); rotate_left; (intro w'; go_simp; with_reducible rfl); rotate_left; (simp only [Act.put, zA, zZ, zS, i64_w, i32_w]; rfl)
         refine sP_ 15 120 HT_ (v := ?_) (hy := ?_) (a' := ?_) (ha := ?_) (h := ?_); rotate_left; (intro w'; go_simp; with_reducible rfl); rotate_left; (simp only [Act.put, zA, zZ, zS, i64_w, i32_w]; rfl)
         refine sP_ 16 121 HT_ (v := ?_) (hy := ?_) (a' := ?_) (ha := ?_) (h := ?_); rotate_left; (intro w'; go_simp; with_reducible rfl); rotate_left; (simp only [Act.put, zA, zZ, zS, i64_w, i32_w]; rfl)
         refine sT_ 17 122 HT_ HW_ hHeld (v := ?_) (hy := ?_) (a' := ?_) (ha := ?_) (h := ?_); rotate_left; (rintro w' ⟨s0, s1, s2⟩; go_simp; with_reducible rfl); rotate_left; (simp only [Act.put, zA, zZ, zS, i64_w, i32_w]; rfl)
         refine sP_ 18 123 HT_ (v := ?_) (hy := ?_) (a' := ?_) (ha := ?_) (h := ?_); rotate_left; (intro w'; go_simp; with_reducible rfl); rotate_left; (simp only [Act.put, zA, zZ, zS, i64_w, i32_w]; rfl)
         refine sT_ 19 124 HT_ HW_ hHeld (v := ?_) (hy := ?_) (a' := ?_) (ha := ?_) (h := ?_); rotate_left; (rintro w' ⟨s0, s1, s2⟩; go_simp; with_reducible rfl); rotate_left; (simp only [Act.put, zA, zZ, zS, i64_w, i32_w]; rfl)
         refine sP_ 20 125 HT_ (v := ?_) (hy := ?_) (a' := ?_) (ha := ?_) (h := ?_); rotate_left; (intro w'; go_simp; with_reducible rfl); rotate_left; (simp only [Act.put, zA, zZ, zS, i64_w, i32_w]; rfl)
         refine sP_ 21 126 HT_ (v := ?_) (hy := ?_) (a' := ?_) (ha := ?_) (h := ?_); rotate_left; (intro w'; go_simp; with_reducible rfl); rotate_left; (simp only [Act.put, zA, zZ, zS, i64_w, i32_w]; rfl)
         refine sP_ 22 127 HT_ (v := ?_) (hy := ?_) (a' := ?_) (ha := ?_) (h := ?_); rotate_left; (intro w'; go_simp; with_reducible rfl); rotate_left; (simp only [Act.put, zA, zZ, zS, i64_w, i32_w]; rfl)
         refine sP_ 23 128 HT_ (v := ?_) (hy := ?_) (a' := ?_) (ha := ?_) (h := ?_); rotate_left; (intro w'; go_simp; with_reducible rfl); rotate_left; (simp only [Act.put, zA, zZ, zS, i64_w, i32_w]; rfl)
         refine sP_ 24 129 HT_ (v := ?_) (hy := ?_) (a' := ?_) (ha := ?_) (h := ?_); rotate_left; (intro w'; go_simp; with_reducible rfl); rotate_left; (simp only [Act.put, zA, zZ, zS, i64_w, i32_w]; rfl)
         refine sP_ 25 130 HT_ (v := ?_) (hy := ?_) (a' := ?_) (ha := ?_) (h := ?_); rotate_left; (intro w'; go_simp; with_reducible rfl); rotate_left; (simp only [Act.put, zA, zZ, zS, i64_w, i32_w]; rfl)
         refine sN_ 26 131 HT_ (a' := ?_) (ha := ?_) (h := ?_); rotate_left; (simp only [Act.put, zA, zZ, zS, i64_w, i32_w]; rfl)
         refine sN_ 27 132 HT_ (a' := ?_) (ha := ?_) (h := ?_); rotate_left; (simp only [Act.put, zA, zZ, zS, i64_w, i32_w]; rfl)
         refine sN_ 28 133 HT_ (a' := ?_) (ha := ?_) (h := ?_); rotate_left; (simp only [Act.put, zA, zZ, zS, i64_w, i32_w]; rfl)
         refine sN_ 29 134 HT_ (a' := ?_) (ha := ?_) (h := ?_); rotate_left; (simp only [Act.put, zA, zZ, zS, i64_w, i32_w]; rfl)
         refine sN_ 30 135 HT_ (a' := ?_) (ha := ?_) (h := ?_); rotate_left; (simp only [Act.put, zA, zZ, zS, i64_w, i32_w]; rfl)
         refine sN_ 31 136 HT_ (a' := ?_) (ha := ?_) (h := ?_); rotate_left; (simp only [Act.put, zA, zZ, zS, i64_w, i32_w]; rfl)
         refine sN_ 32 137 HT_ (a' := ?_) (ha := ?_) (h := ?_); rotate_left; (simp only [Act.put, zA, zZ, zS, i64_w, i32_w]; rfl)
         refine sN_ 33 138 HT_ (a' := ?_) (ha := ?_) (h := ?_); rotate_left; (simp only [Act.put, zA, zZ, zS, i64_w, i32_w]; rfl)
         refine sN_ 34 139 HT_ (a' := ?_) (ha := ?_) (h := ?_); rotate_left; (simp only [Act.put, zA, zZ, zS, i64_w, i32_w]; rfl)
         refine sP_ 35 140 HT_ (v := ?_) (hy := ?_) (a' := ?_) (ha := ?_) (h := ?_); rotate_left; (intro w'; go_simp; with_reducible rfl); rotate_left; (simp only [Act.put, zA, zZ, zS, i64_w, i32_w]; rfl)
         refine sP_ 36 141 HT_ (v := ?_) (hy := ?_) (a' := ?_) (ha := ?_) (h := ?_); rotate_left; (intro w'; go_simp; with_reducible rfl); rotate_left; (simp only [Act.put, zA, zZ, zS, i64_w, i32_w]; rfl)
         refine done_ (done_of HT_.out (by kernel_rfl)) ?_
         try go_wp2
         go_roundg k3
         case measure => have := HJ2.out; have := HK2.out; have := HK3.out; omega
         case rel => exact ⟨(wrap64 (x100_3 + 1)), (by first | rfl | (simp; done) | (simp [*]; done)), H', ⟨by have := HJ2.out; have := HK2.out; have := HK3.out; omega⟩, ⟨by (with_reducible repeat (first | refine kN ?_ _ | refine kD ?_ | refine kA ?_ _)); exact BK288.out⟩, ⟨by repeat (first | (with_reducible first | exact HB.out | apply bA | apply bN | apply bD | refine bS ?_ GE288.out | refine bS ?_ GE309.out) | exact HB.out)⟩⟩
       rw [if_pos c104] at H
       have c104b0 : decide (0 < x100_3) = true := decide_eq_true c104
       clear c104
       obtain ⟨ji105, hji105⟩ : ∃ j_ : Int, (wrap64 (x100_3 - 1)) = j_ := ⟨_, rfl⟩
       replace H : (if 0 ≤ (ji105) then (if (ji105) < (l0_3.length : Int) then ((catalog_behind.f ((rd_T50 l0_3 x100_3).f0) ((rd_T50 l0_3 x100_3).f1) ((rd_T50 l0_3 x100_3).f2) ((rd_T50 l0_3 (ji105)).f0) ((rd_T50 l0_3 (ji105)).f1) ((rd_T50 l0_3 (ji105)).f2)).bind fun t311 => (if t311 = true then (catalog_Check.l1 k3 (l0_2.length : Int) l0_3 (l0_3.length : Int) (wrap64 (x100_3 + 1)) a0_0 a0_1 l0_2 l0_3) else (some 72))) else (none)) else (none)) = some r := by first | (rw [hji105] at H; exact H) | (simp only [hji105] at H ⊢; exact H)
       have hji105w : (IntKind.i64.wrap (x100_3 - 1)) = ji105 := (i64_w _).trans hji105
       by_cases c106 : 0 ≤ (ji105)
       rotate_left
       · rw [if_neg c106] at H
         exact absurd H (by simp)
       rw [if_pos c106] at H
       have c106b0 : decide (0 ≤ (ji105)) = true := decide_eq_true c106
       clear c106
       by_cases c107 : (ji105) < (l0_3.length : Int)
       rotate_left
       · rw [if_neg c107] at H
         exact absurd H (by simp)
       rw [if_pos c107] at H
       have c107b0 : decide ((ji105) < (l0_3.length : Int)) = true := decide_eq_true c107
       clear c107
       replace H := Option.bind_eq_some_iff.mp H
       obtain ⟨t311, A1080, H⟩ := H
       replace H : (if t311 = true then (catalog_Check.l1 k3 (l0_2.length : Int) l0_3 (l0_3.length : Int) (wrap64 (x100_3 + 1)) a0_0 a0_1 l0_2 l0_3) else (some 72)) = some r := H
       have A108 := As.mk A1080
       clear A1080
       by_cases c109 : t311 = true
       rotate_left
       · replace c109 := Bool.eq_false_iff.mpr c109
         subst c109
         have H1 : (some 72) = some r := by rw [if_neg (show ¬ (false = true) by decide)] at H; exact H
         clear H
         have H := H1
         clear H1
         obtain rfl := Option.some.inj H
         have p308 : 0 ≤ (x100_3 : Int) := of_decide_eq_true (by first | (with_reducible assumption) | assumption)
         have q308 : x100_3 < (l0_3.length : Int) := of_decide_eq_true (by first | (with_reducible assumption) | assumption)
         obtain ⟨ad308, e308, hx308_0, hx308_1, hx308_2⟩ := at_T50 HR0_3.out x100_3 p308 q308
         cases e308
         replace hx308_0 := (HB.out.cell (World.block_lt_of_cell? w _ hx308_0)).trans hx308_0
         replace hx308_1 := (HB.out.cell (World.block_lt_of_cell? w _ hx308_1)).trans hx308_1
         replace hx308_2 := (HB.out.cell (World.block_lt_of_cell? w _ hx308_2)).trans hx308_2
         replace p308 := eq_true p308
         replace q308 := eq_true q308
         try go_wp2_with (first | ((with_reducible refine gate_dst (N := 10) rfl ?_); (try (refine gate_guard (by rfl) ?_; dsimp only)); refine box_event ?hg (N := 10) ?hd (cs := #[.int .i64 0, .int .i64 0, .bool false]) (t := 50) ?hr ?_; (case hd => rfl); (case hg => rfl); (case hr => first | (go_simp; done) | (go_simp; rfl)); intro gb309 hg w116 hbox hb; have n0_ := As.mk (kB (g := gb288) (o := .cells #[.int .i64 a0_0, .string a0_1, .slice A0_2 l0_2.length c0_2, .slice (some ad308) l0_3.length c0_3] 37 (0, 0)) (by (with_reducible repeat (first | refine kN ?_ _ | refine kD ?_ | refine kA ?_ _)); exact BK288.out) hb); have n1_ := As.mk (bT (by repeat (first | (with_reducible first | exact HB.out | apply bA | apply bN | apply bD | refine bS ?_ GE288.out) | exact HB.out)) hb); have n2_ := As.mk (hbox); have n3_ := As.mk ((by rw [hg]; exact (bZ (by repeat (first | (with_reducible first | exact HB.out | apply bA | apply bN | apply bD | refine bS ?_ GE288.out) | exact HB.out))) : w.heap.size ≤ gb309)); have n4_ := As.mk ((by rw [hg]; exact (bZ (by repeat (first | (with_reducible first | exact HB.out | apply bA | apply bN | apply bD | refine bS ?_ GE288.out) | exact HB.out))) : w.heap.size ≤ gb309)); have n5_ := As.mk ((by rw [hg]; exact Nat.ne_of_lt (blk_lt (g := gb288) (o := .cells #[.int .i64 a0_0, .string a0_1, .slice A0_2 l0_2.length c0_2, .slice (some ad308) l0_3.length c0_3] 37 (0, 0)) (by (with_reducible repeat (first | refine kN ?_ _ | refine kD ?_ | refine kA ?_ _)); exact BK288.out)) : gb288 ≠ gb309)); have n6_ := As.mk ((by rw [hg]; exact Nat.ne_of_gt (blk_lt (g := gb288) (o := .cells #[.int .i64 a0_0, .string a0_1, .slice A0_2 l0_2.length c0_2, .slice (some ad308) l0_3.length c0_3] 37 (0, 0)) (by (with_reducible repeat (first | refine kN ?_ _ | refine kD ?_ | refine kA ?_ _)); exact BK288.out)) : gb309 ≠ gb288)); clear BK288; clear HB; have BK288 := n0_; have HB := n1_; have BK309 := n2_; have GW309 := n3_; have GE309 := n4_; have NB288_309 := n5_; have NB309_288 := n6_; clear n0_ n1_ n2_ n3_ n4_ n5_ n6_; clear hb hbox hg; have hnb117 := NB309_288.out; have hnc117 := NB288_309.out; have hcz118_0 : w116.cell? ⟨gb309, 0, none⟩ = some (.int .i64 0) := (kC BK309.out 0).trans rfl; have hcz118_1 : w116.cell? ⟨gb309, 1, none⟩ = some (.int .i64 0) := (kC BK309.out 1).trans rfl; have hcz118_2 : w116.cell? ⟨gb309, 2, none⟩ = some (.bool false) := (kC BK309.out 2).trans rfl; have hfz118_0 := kF BK309.out 0; have hfz118_1 := kF BK309.out 1; have hfz118_2 := kF BK309.out 2))
         have n0_ : As ((((w116.setCell ⟨gb309, 0, none⟩ (.int .i64 ((rd_T50 l0_3 x100_3).f0))).setCell ⟨gb309, 1, none⟩ (.int .i64 ((rd_T50 l0_3 x100_3).f1))).setCell ⟨gb309, 2, none⟩ (.bool ((rd_T50 l0_3 x100_3).f2))).heap[gb288]? = some (.cells #[.int .i64 a0_0, .string a0_1, .slice A0_2 l0_2.length c0_2, .slice (some ad308) l0_3.length c0_3] 37 (0, 0))) := ⟨by (with_reducible repeat (first | refine kN ?_ _ | refine kD ?_ | refine kA ?_ _)); refine kR ?_ NB288_309.out _; (with_reducible repeat (first | refine kN ?_ _ | refine kD ?_ | refine kA ?_ _)); refine kR ?_ NB288_309.out _; (with_reducible repeat (first | refine kN ?_ _ | refine kD ?_ | refine kA ?_ _)); refine kR ?_ NB288_309.out _; (with_reducible repeat (first | refine kN ?_ _ | refine kD ?_ | refine kA ?_ _)); exact BK288.out⟩
         have n1_ : As ((((w116.setCell ⟨gb309, 0, none⟩ (.int .i64 ((rd_T50 l0_3 x100_3).f0))).setCell ⟨gb309, 1, none⟩ (.int .i64 ((rd_T50 l0_3 x100_3).f1))).setCell ⟨gb309, 2, none⟩ (.bool ((rd_T50 l0_3 x100_3).f2))).heap[gb309]? = some (.cells #[.int .i64 ((rd_T50 l0_3 x100_3).f0), .int .i64 ((rd_T50 l0_3 x100_3).f1), .bool ((rd_T50 l0_3 x100_3).f2)] 50 (0, 0))) := ⟨by (with_reducible repeat (first | refine kN ?_ _ | refine kD ?_ | refine kA ?_ _)); refine kP (cs := #[.int .i64 ((rd_T50 l0_3 x100_3).f0), .int .i64 ((rd_T50 l0_3 x100_3).f1), .bool false]) ?_ 2 _ rfl; (with_reducible repeat (first | refine kN ?_ _ | refine kD ?_ | refine kA ?_ _)); refine kP (cs := #[.int .i64 ((rd_T50 l0_3 x100_3).f0), .int .i64 0, .bool false]) ?_ 1 _ rfl; (with_reducible repeat (first | refine kN ?_ _ | refine kD ?_ | refine kA ?_ _)); refine kP (cs := #[.int .i64 0, .int .i64 0, .bool false]) ?_ 0 _ rfl; (with_reducible repeat (first | refine kN ?_ _ | refine kD ?_ | refine kA ?_ _)); exact BK309.out⟩
         have n2_ : As (Below w.heap.size w (((w116.setCell ⟨gb309, 0, none⟩ (.int .i64 ((rd_T50 l0_3 x100_3).f0))).setCell ⟨gb309, 1, none⟩ (.int .i64 ((rd_T50 l0_3 x100_3).f1))).setCell ⟨gb309, 2, none⟩ (.bool ((rd_T50 l0_3 x100_3).f2)))) := ⟨by repeat (first | (with_reducible first | exact HB.out | apply bA | apply bN | apply bD | refine bS ?_ GE288.out | refine bS ?_ GE309.out) | exact HB.out)⟩
         (try clear BK288)
         (try clear BK309)
         (try clear HB)
         generalize (((w116.setCell ⟨gb309, 0, none⟩ (.int .i64 ((rd_T50 l0_3 x100_3).f0))).setCell ⟨gb309, 1, none⟩ (.int .i64 ((rd_T50 l0_3 x100_3).f1))).setCell ⟨gb309, 2, none⟩ (.bool ((rd_T50 l0_3 x100_3).f2))) = w119 at n0_ n1_ n2_ ⊢
         have BK288 := n0_
         have BK309 := n1_
         have HB := n2_
         clear n0_ n1_ n2_
         have n0_ := As.mk (kD BK288.out)
         have n1_ := As.mk (kD BK309.out)
         have n2_ := As.mk (bD HB.out)
         clear BK288
         clear BK309
         clear HB
         have BK288 := n0_
         have BK309 := n1_
         have HB := n2_
         clear n0_ n1_ n2_
         have p310 : 0 ≤ ((ji105) : Int) := of_decide_eq_true (by first | (with_reducible assumption) | assumption)
         have q310 : (ji105) < (l0_3.length : Int) := of_decide_eq_true (by first | (with_reducible assumption) | assumption)
         obtain ⟨ad310, e310, hx310_0, hx310_1, hx310_2⟩ := at_T50 HR0_3.out (ji105) p310 q310
         have hw310_2 := hx310_2
         have hw310_1 := hx310_1
         have hw310_0 := hx310_0
         obtain rfl : ad308 = ad310 := (by injection e310)
         replace hx310_0 := (HB.out.cell (World.block_lt_of_cell? w _ hx310_0)).trans hx310_0
         replace hx310_1 := (HB.out.cell (World.block_lt_of_cell? w _ hx310_1)).trans hx310_1
         replace hx310_2 := (HB.out.cell (World.block_lt_of_cell? w _ hx310_2)).trans hx310_2
         replace p310 := eq_true p310
         replace q310 := eq_true q310
         refine start_ (n := 37) (S := fun w' => w'.cell? ⟨gb309, 0, none⟩ = some (.int .i64 ((rd_T50 l0_3 x100_3).f0)) ∧ w'.cell? ⟨gb309, 1, none⟩ = some (.int .i64 ((rd_T50 l0_3 x100_3).f1)) ∧ w'.cell? ⟨gb309, 2, none⟩ = some (.bool ((rd_T50 l0_3 x100_3).f2)) ∧ w'.cell? ⟨gb288, 0, none⟩ = some (.int .i64 a0_0) ∧ w'.cell? ⟨gb288, 1, none⟩ = some (.string a0_1) ∧ w'.cell? ⟨gb288, 2, none⟩ = some (.slice A0_2 l0_2.length c0_2) ∧ w'.cell? ⟨gb288, 3, none⟩ = some (.slice (some ad308) l0_3.length c0_3) ∧ w'.cell? (ad308.add (((ji105)).toNat * 3)) = some (.int .i64 ((rd_T50 l0_3 (ji105)).f0)) ∧ w'.cell? ⟨(ad308.add (((ji105)).toNat * 3)).block, (ad308.add (((ji105)).toNat * 3)).off + 1, none⟩ = some (.int .i64 ((rd_T50 l0_3 (ji105)).f1)) ∧ w'.cell? ⟨(ad308.add (((ji105)).toNat * 3)).block, (ad308.add (((ji105)).toNat * 3)).off + 2, none⟩ = some (.bool ((rd_T50 l0_3 (ji105)).f2))) (ds := []) (upB 37 0) (by kernel_rfl) rfl rfl ⟨(kC BK309.out 0).trans rfl, (kC BK309.out 1).trans rfl, (kC BK309.out 2).trans rfl, (kC BK288.out 0).trans rfl, (kC BK288.out 1).trans rfl, (kC BK288.out 2).trans rfl, (kC BK288.out 3).trans rfl, ((HB.out.cell (World.block_lt_of_cell? w _ hw310_0)).trans hw310_0), ((HB.out.cell (World.block_lt_of_cell? w _ hw310_1)).trans hw310_1), ((HB.out.cell (World.block_lt_of_cell? w _ hw310_2)).trans hw310_2)⟩ (fun hHeld => ?_); refine with_tabW catalog_Check.tab23 catalog_Check.bits23 (fun HT_ HW_ => ?_)
         generalize w119.drew = w120 at BK288 BK309 HB hx310_0 hx310_1 hx310_2 hHeld ⊢
         refine sP_ 0 105 HT_ (v := ?_) (hy := ?_) (a' := ?_) (ha := ?_) (h := ?_); rotate_left; (intro w'; go_simp; with_reducible rfl); rotate_left; (simp only [Act.put, zA, zZ, zS, i64_w, i32_w]; rfl)
         refine sT_ 1 106 HT_ HW_ hHeld (v := ?_) (hy := ?_) (a' := ?_) (ha := ?_) (h := ?_); rotate_left; (rintro w' ⟨s0, s1, s2, s3, s4, s5, s6, s7, s8, s9⟩; go_simp; with_reducible rfl); rotate_left; (simp only [Act.put, zA, zZ, zS, i64_w, i32_w]; rfl)
         refine sP_ 2 107 HT_ (v := ?_) (hy := ?_) (a' := ?_) (ha := ?_) (h := ?_); rotate_left; (intro w'; go_simp; with_reducible rfl); rotate_left; (simp only [Act.put, zA, zZ, zS, i64_w, i32_w]; rfl)
         refine sT_ 3 108 HT_ HW_ hHeld (v := ?_) (hy := ?_) (a' := ?_) (ha := ?_) (h := ?_); rotate_left; (rintro w' ⟨s0, s1, s2, s3, s4, s5, s6, s7, s8, s9⟩; go_simp; with_reducible rfl); rotate_left; (simp only [Act.put, zA, zZ, zS, i64_w, i32_w]; rfl)
         refine sP_ 4 109 HT_ (v := ?_) (hy := ?_) (a' := ?_) (ha := ?_) (h := ?_); rotate_left; (intro w'; go_simp; with_reducible rfl); rotate_left; (simp only [Act.put, zA, zZ, zS, i64_w, i32_w]; rfl)
         refine sP_ 5 110 HT_ (v := ?_) (hy := ?_) (a' := ?_) (ha := ?_) (h := ?_); rotate_left; (intro w'; go_simp; with_reducible rfl); rotate_left; (simp only [Act.put, zA, zZ, zS, i64_w, i32_w]; rfl)
         refine sP_ 6 111 HT_ (v := ?_) (hy := ?_) (a' := ?_) (ha := ?_) (h := ?_); rotate_left; (intro w'; go_simp; with_reducible rfl); rotate_left; (simp only [Act.put, zA, zZ, zS, i64_w, i32_w]; rfl)
         refine sP_ 7 112 HT_ (v := ?_) (hy := ?_) (a' := ?_) (ha := ?_) (h := ?_); rotate_left; (intro w'; go_simp; with_reducible rfl); rotate_left; (simp only [Act.put, zA, zZ, zS, i64_w, i32_w]; rfl)
         refine sT_ 8 113 HT_ HW_ hHeld (v := ?_) (hy := ?_) (a' := ?_) (ha := ?_) (h := ?_); rotate_left; (rintro w' ⟨s0, s1, s2, s3, s4, s5, s6, s7, s8, s9⟩; go_simp; with_reducible rfl); rotate_left; (simp only [Act.put, zA, zZ, zS, i64_w, i32_w]; rfl)
         refine sP_ 9 114 HT_ (v := ?_) (hy := ?_) (a' := ?_) (ha := ?_) (h := ?_); rotate_left; (intro w'; go_simp; with_reducible rfl); rotate_left; (simp only [Act.put, zA, zZ, zS, i64_w, i32_w]; rfl)
         refine sT_ 10 115 HT_ HW_ hHeld (v := ?_) (hy := ?_) (a' := ?_) (ha := ?_) (h := ?_); rotate_left; (rintro w' ⟨s0, s1, s2, s3, s4, s5, s6, s7, s8, s9⟩; go_simp; with_reducible rfl); rotate_left; (simp only [Act.put, zA, zZ, zS, i64_w, i32_w]; rfl)
         refine sP_ 11 116 HT_ (v := ?_) (hy := ?_) (a' := ?_) (ha := ?_) (h := ?_); rotate_left; (intro w'; go_simp; with_reducible rfl); rotate_left; (simp only [Act.put, zA, zZ, zS, i64_w, i32_w]; rfl)
         refine sP_ 12 117 HT_ (v := ?_) (hy := ?_) (a' := ?_) (ha := ?_) (h := ?_); rotate_left; (intro w'; go_simp; with_reducible rfl); rotate_left; (simp only [Act.put, zA, zZ, zS, i64_w, i32_w]; rfl)
         refine sP_ 13 118 HT_ (v := ?_) (hy := ?_) (a' := ?_) (ha := ?_) (h := ?_); rotate_left; (intro w'; go_simp; with_reducible rfl); rotate_left; (simp only [Act.put, zA, zZ, zS, i64_w, i32_w]; rfl)
         refine sP_ 14 119 HT_ (v := ?_) (hy := ?_) (a' := ?_) (ha := ?_) (h := ?_); rotate_left; (intro w'; go_simp; with_reducible rfl); rotate_left; (simp only [Act.put, zA, zZ, zS, i64_w, i32_w]; rfl)
         refine sP_ 15 120 HT_ (v := ?_) (hy := ?_) (a' := ?_) (ha := ?_) (h := ?_); rotate_left; (intro w'; go_simp; with_reducible rfl); rotate_left; (simp only [Act.put, zA, zZ, zS, i64_w, i32_w]; rfl)
         refine sP_ 16 121 HT_ (v := ?_) (hy := ?_) (a' := ?_) (ha := ?_) (h := ?_); rotate_left; (intro w'; go_simp; with_reducible rfl); rotate_left; (simp only [Act.put, zA, zZ, zS, i64_w, i32_w]; rfl)
         refine sT_ 17 122 HT_ HW_ hHeld (v := ?_) (hy := ?_) (a' := ?_) (ha := ?_) (h := ?_); rotate_left; (rintro w' ⟨s0, s1, s2, s3, s4, s5, s6, s7, s8, s9⟩; go_simp; with_reducible rfl); rotate_left; (simp only [Act.put, zA, zZ, zS, i64_w, i32_w]; rfl)
         refine sP_ 18 123 HT_ (v := ?_) (hy := ?_) (a' := ?_) (ha := ?_) (h := ?_); rotate_left; (intro w'; go_simp; with_reducible rfl); rotate_left; (simp only [Act.put, zA, zZ, zS, i64_w, i32_w]; rfl)
         refine sT_ 19 124 HT_ HW_ hHeld (v := ?_) (hy := ?_) (a' := ?_) (ha := ?_) (h := ?_); rotate_left; (rintro w' ⟨s0, s1, s2, s3, s4, s5, s6, s7, s8, s9⟩; go_simp; with_reducible rfl); rotate_left; (simp only [Act.put, zA, zZ, zS, i64_w, i32_w]; rfl)
         refine sP_ 20 125 HT_ (v := ?_) (hy := ?_) (a' := ?_) (ha := ?_) (h := ?_); rotate_left; (intro w'; go_simp; with_reducible rfl); rotate_left; (simp only [Act.put, zA, zZ, zS, i64_w, i32_w]; rfl)
         refine sP_ 21 126 HT_ (v := ?_) (hy := ?_) (a' := ?_) (ha := ?_) (h := ?_); rotate_left; (intro w'; go_simp; with_reducible rfl); rotate_left; (simp only [Act.put, zA, zZ, zS, i64_w, i32_w]; rfl)
         refine sP_ 22 127 HT_ (v := ?_) (hy := ?_) (a' := ?_) (ha := ?_) (h := ?_); rotate_left; (intro w'; go_simp; with_reducible rfl); rotate_left; (simp only [Act.put, zA, zZ, zS, i64_w, i32_w]; rfl)
         refine sP_ 23 128 HT_ (v := ?_) (hy := ?_) (a' := ?_) (ha := ?_) (h := ?_); rotate_left; (intro w'; go_simp; with_reducible rfl); rotate_left; (simp only [Act.put, zA, zZ, zS, i64_w, i32_w]; rfl)
         refine sP_ 24 129 HT_ (v := ?_) (hy := ?_) (a' := ?_) (ha := ?_) (h := ?_); rotate_left; (intro w'; go_simp; with_reducible rfl); rotate_left; (simp only [Act.put, zA, zZ, zS, i64_w, i32_w]; rfl)
         refine sP_ 25 130 HT_ (v := ?_) (hy := ?_) (a' := ?_) (ha := ?_) (h := ?_); rotate_left; (intro w'; go_simp; with_reducible rfl); rotate_left; (simp only [Act.put, zA, zZ, zS, i64_w, i32_w]; rfl)
         refine sT_ 26 131 HT_ HW_ hHeld (v := ?_) (hy := ?_) (a' := ?_) (ha := ?_) (h := ?_); rotate_left; (rintro w' ⟨s0, s1, s2, s3, s4, s5, s6, s7, s8, s9⟩; go_simp; with_reducible rfl); rotate_left; (simp only [Act.put, zA, zZ, zS, i64_w, i32_w]; rfl)
         refine sP_ 27 132 HT_ (v := ?_) (hy := ?_) (a' := ?_) (ha := ?_) (h := ?_); rotate_left; (intro w'; go_simp; with_reducible rfl); rotate_left; (simp only [Act.put, zA, zZ, zS, i64_w, i32_w]; rfl)
         refine sT_ 28 133 HT_ HW_ hHeld (v := ?_) (hy := ?_) (a' := ?_) (ha := ?_) (h := ?_); rotate_left; (rintro w' ⟨s0, s1, s2, s3, s4, s5, s6, s7, s8, s9⟩; go_simp; with_reducible rfl); rotate_left; (simp only [Act.put, zA, zZ, zS, i64_w, i32_w]; rfl)
         refine sP_ 29 134 HT_ (v := ?_) (hy := ?_) (a' := ?_) (ha := ?_) (h := ?_); rotate_left; (intro w'; go_simp; with_reducible rfl); rotate_left; (simp only [Act.put, zA, zZ, zS, i64_w, i32_w]; rfl)
         refine sP_ 30 135 HT_ (v := ?_) (hy := ?_) (a' := ?_) (ha := ?_) (h := ?_); rotate_left; (intro w'; go_simp; with_reducible rfl); rotate_left; (simp only [Act.put, zA, zZ, zS, i64_w, i32_w]; rfl)
         refine sP_ 31 136 HT_ (v := ?_) (hy := ?_) (a' := ?_) (ha := ?_) (h := ?_); rotate_left; (intro w'; go_simp; with_reducible rfl); rotate_left; (simp only [Act.put, zA, zZ, zS, i64_w, i32_w]; rfl)
         refine sT_ 32 137 HT_ HW_ hHeld (v := ?_) (hy := ?_) (a' := ?_) (ha := ?_) (h := ?_); rotate_left; (rintro w' ⟨s0, s1, s2, s3, s4, s5, s6, s7, s8, s9⟩; go_simp; with_reducible rfl); rotate_left; (simp only [Act.put, zA, zZ, zS, i64_w, i32_w]; rfl)
         refine one_ (i := 33) (N := some 138) (upB 37 34) rfl rfl (one_of HT_.out (by kernel_rfl)) (by decide) (fun K hK => ?_)
         refine goes_ Tryz.func43 (by kernel_rfl) rfl #[.agg #[.int .i64 ((rd_T50 l0_3 x100_3).f0), .int .i64 ((rd_T50 l0_3 x100_3).f1), .bool ((rd_T50 l0_3 x100_3).f2)], .agg #[.int .i64 ((rd_T50 l0_3 (ji105)).f0), .int .i64 ((rd_T50 l0_3 (ji105)).f1), .bool ((rd_T50 l0_3 (ji105)).f2)]] (by rfl) rfl rfl (by (try simp only [List.map_toArray, List.map_cons, List.map_nil]); first | done | (simp only [hji105]; rfl) | rfl | (simp only [List.length_drop, List.length_take]; rfl)) ?_
         with_reducible refine (catalog_behind.calls ((rd_T50 l0_3 x100_3).f0) ((rd_T50 l0_3 x100_3).f1) ((rd_T50 l0_3 x100_3).f2) ((rd_T50 l0_3 (ji105)).f0) ((rd_T50 l0_3 (ji105)).f1) ((rd_T50 l0_3 (ji105)).f2) false _ A108.out).mono ?_
         rintro e w121 ⟨rfl, hb⟩
         refine ⟨_, rfl, ?_⟩
         have n0_ := As.mk (kB (g := gb288) (o := .cells #[.int .i64 a0_0, .string a0_1, .slice A0_2 l0_2.length c0_2, .slice (some ad308) l0_3.length c0_3] 37 (0, 0)) (by (with_reducible repeat (first | refine kN ?_ _ | refine kD ?_ | refine kA ?_ _)); exact BK288.out) hb)
         have n1_ := As.mk (kB (g := gb309) (o := .cells #[.int .i64 ((rd_T50 l0_3 x100_3).f0), .int .i64 ((rd_T50 l0_3 x100_3).f1), .bool ((rd_T50 l0_3 x100_3).f2)] 50 (0, 0)) (by (with_reducible repeat (first | refine kN ?_ _ | refine kD ?_ | refine kA ?_ _)); exact BK309.out) hb)
         have n2_ := As.mk (bT (by repeat (first | (with_reducible first | exact HB.out | apply bA | apply bN | apply bD | refine bS ?_ GE288.out | refine bS ?_ GE309.out) | exact HB.out)) hb)
         clear BK288
         clear BK309
         clear HB
         have BK288 := n0_
         have BK309 := n1_
         have HB := n2_
         clear n0_ n1_ n2_
         (try clear hb)
         (try clear hb2)
         (try clear hk)
         (try clear hi)
         refine hK.out _ _ ⟨(kC BK309.out 0).trans rfl, (kC BK309.out 1).trans rfl, (kC BK309.out 2).trans rfl, (kC BK288.out 0).trans rfl, (kC BK288.out 1).trans rfl, (kC BK288.out 2).trans rfl, (kC BK288.out 3).trans rfl, ((HB.out.cell (World.block_lt_of_cell? w _ hw310_0)).trans hw310_0), ((HB.out.cell (World.block_lt_of_cell? w _ hw310_1)).trans hw310_1), ((HB.out.cell (World.block_lt_of_cell? w _ hw310_2)).trans hw310_2)⟩ (fun hHeld => ?_)
         clear hK K
         refine norm_ (a' := ?_) ?_ ?_
         rotate_left
         · show Act.put _ (some 138) _ = _
           simp only [Act.put, zA, zZ, zS, i64_w, i32_w]
           rfl
         refine sP_ 34 139 HT_ (v := ?_) (hy := ?_) (a' := ?_) (ha := ?_) (h := ?_); rotate_left; (intro w'; go_simp; with_reducible rfl); rotate_left; (simp only [Act.put, zA, zZ, zS, i64_w, i32_w]; rfl)
         refine sP_ 35 140 HT_ (v := ?_) (hy := ?_) (a' := ?_) (ha := ?_) (h := ?_); rotate_left; (intro w'; go_simp; with_reducible rfl); rotate_left; (simp only [Act.put, zA, zZ, zS, i64_w, i32_w]; rfl)
         refine sP_ 36 141 HT_ (v := ?_) (hy := ?_) (a' := ?_) (ha := ?_) (h := ?_); rotate_left; (intro w'; go_simp; with_reducible rfl); rotate_left; (simp only [Act.put, zA, zZ, zS, i64_w, i32_w]; rfl)
         refine done_ (done_of HT_.out (by kernel_rfl)) ?_
         try go_wp2
         go_ret
         exact ⟨by first | rfl | (simp [errW_none, errW_some] <;> rfl) | (simp only [← hji84, ← hji91, ← hji105]; first | rfl | (simp [errW_none, errW_some] <;> rfl)) | (simp [*, errW_none, errW_some] <;> rfl), by repeat (first | (with_reducible first | exact HB.out | apply bA | apply bN | apply bD | refine bS ?_ GE288.out | refine bS ?_ GE309.out) | exact HB.out)⟩
       subst c109
       have H1 : (catalog_Check.l1 k3 (l0_2.length : Int) l0_3 (l0_3.length : Int) (wrap64 (x100_3 + 1)) a0_0 a0_1 l0_2 l0_3) = some r := by rw [if_pos rfl] at H; exact H
       clear H
       have H := H1
       clear H1
       have H' := As.mk H
       clear H
       have p308 : 0 ≤ (x100_3 : Int) := of_decide_eq_true (by first | (with_reducible assumption) | assumption)
       have q308 : x100_3 < (l0_3.length : Int) := of_decide_eq_true (by first | (with_reducible assumption) | assumption)
       obtain ⟨ad308, e308, hx308_0, hx308_1, hx308_2⟩ := at_T50 HR0_3.out x100_3 p308 q308
       cases e308
       replace hx308_0 := (HB.out.cell (World.block_lt_of_cell? w _ hx308_0)).trans hx308_0
       replace hx308_1 := (HB.out.cell (World.block_lt_of_cell? w _ hx308_1)).trans hx308_1
       replace hx308_2 := (HB.out.cell (World.block_lt_of_cell? w _ hx308_2)).trans hx308_2
       replace p308 := eq_true p308
       replace q308 := eq_true q308
       try go_wp2_with (first | ((with_reducible refine gate_dst (N := 10) rfl ?_); (try (refine gate_guard (by rfl) ?_; dsimp only)); refine box_event ?hg (N := 10) ?hd (cs := #[.int .i64 0, .int .i64 0, .bool false]) (t := 50) ?hr ?_; (case hd => rfl); (case hg => rfl); (case hr => first | (go_simp; done) | (go_simp; rfl)); intro gb309 hg w110 hbox hb; have n0_ := As.mk (kB (g := gb288) (o := .cells #[.int .i64 a0_0, .string a0_1, .slice A0_2 l0_2.length c0_2, .slice (some ad308) l0_3.length c0_3] 37 (0, 0)) (by (with_reducible repeat (first | refine kN ?_ _ | refine kD ?_ | refine kA ?_ _)); exact BK288.out) hb); have n1_ := As.mk (bT (by repeat (first | (with_reducible first | exact HB.out | apply bA | apply bN | apply bD | refine bS ?_ GE288.out) | exact HB.out)) hb); have n2_ := As.mk (hbox); have n3_ := As.mk ((by rw [hg]; exact (bZ (by repeat (first | (with_reducible first | exact HB.out | apply bA | apply bN | apply bD | refine bS ?_ GE288.out) | exact HB.out))) : w.heap.size ≤ gb309)); have n4_ := As.mk ((by rw [hg]; exact (bZ (by repeat (first | (with_reducible first | exact HB.out | apply bA | apply bN | apply bD | refine bS ?_ GE288.out) | exact HB.out))) : w.heap.size ≤ gb309)); have n5_ := As.mk ((by rw [hg]; exact Nat.ne_of_lt (blk_lt (g := gb288) (o := .cells #[.int .i64 a0_0, .string a0_1, .slice A0_2 l0_2.length c0_2, .slice (some ad308) l0_3.length c0_3] 37 (0, 0)) (by (with_reducible repeat (first | refine kN ?_ _ | refine kD ?_ | refine kA ?_ _)); exact BK288.out)) : gb288 ≠ gb309)); have n6_ := As.mk ((by rw [hg]; exact Nat.ne_of_gt (blk_lt (g := gb288) (o := .cells #[.int .i64 a0_0, .string a0_1, .slice A0_2 l0_2.length c0_2, .slice (some ad308) l0_3.length c0_3] 37 (0, 0)) (by (with_reducible repeat (first | refine kN ?_ _ | refine kD ?_ | refine kA ?_ _)); exact BK288.out)) : gb309 ≠ gb288)); clear BK288; clear HB; have BK288 := n0_; have HB := n1_; have BK309 := n2_; have GW309 := n3_; have GE309 := n4_; have NB288_309 := n5_; have NB309_288 := n6_; clear n0_ n1_ n2_ n3_ n4_ n5_ n6_; clear hb hbox hg; have hnb111 := NB309_288.out; have hnc111 := NB288_309.out; have hcz112_0 : w110.cell? ⟨gb309, 0, none⟩ = some (.int .i64 0) := (kC BK309.out 0).trans rfl; have hcz112_1 : w110.cell? ⟨gb309, 1, none⟩ = some (.int .i64 0) := (kC BK309.out 1).trans rfl; have hcz112_2 : w110.cell? ⟨gb309, 2, none⟩ = some (.bool false) := (kC BK309.out 2).trans rfl; have hfz112_0 := kF BK309.out 0; have hfz112_1 := kF BK309.out 1; have hfz112_2 := kF BK309.out 2))
       have n0_ : As ((((w110.setCell ⟨gb309, 0, none⟩ (.int .i64 ((rd_T50 l0_3 x100_3).f0))).setCell ⟨gb309, 1, none⟩ (.int .i64 ((rd_T50 l0_3 x100_3).f1))).setCell ⟨gb309, 2, none⟩ (.bool ((rd_T50 l0_3 x100_3).f2))).heap[gb288]? = some (.cells #[.int .i64 a0_0, .string a0_1, .slice A0_2 l0_2.length c0_2, .slice (some ad308) l0_3.length c0_3] 37 (0, 0))) := ⟨by (with_reducible repeat (first | refine kN ?_ _ | refine kD ?_ | refine kA ?_ _)); refine kR ?_ NB288_309.out _; (with_reducible repeat (first | refine kN ?_ _ | refine kD ?_ | refine kA ?_ _)); refine kR ?_ NB288_309.out _; (with_reducible repeat (first | refine kN ?_ _ | refine kD ?_ | refine kA ?_ _)); refine kR ?_ NB288_309.out _; (with_reducible repeat (first | refine kN ?_ _ | refine kD ?_ | refine kA ?_ _)); exact BK288.out⟩
       have n1_ : As ((((w110.setCell ⟨gb309, 0, none⟩ (.int .i64 ((rd_T50 l0_3 x100_3).f0))).setCell ⟨gb309, 1, none⟩ (.int .i64 ((rd_T50 l0_3 x100_3).f1))).setCell ⟨gb309, 2, none⟩ (.bool ((rd_T50 l0_3 x100_3).f2))).heap[gb309]? = some (.cells #[.int .i64 ((rd_T50 l0_3 x100_3).f0), .int .i64 ((rd_T50 l0_3 x100_3).f1), .bool ((rd_T50 l0_3 x100_3).f2)] 50 (0, 0))) := ⟨by (with_reducible repeat (first | refine kN ?_ _ | refine kD ?_ | refine kA ?_ _)); refine kP (cs := #[.int .i64 ((rd_T50 l0_3 x100_3).f0), .int .i64 ((rd_T50 l0_3 x100_3).f1), .bool false]) ?_ 2 _ rfl; (with_reducible repeat (first | refine kN ?_ _ | refine kD ?_ | refine kA ?_ _)); refine kP (cs := #[.int .i64 ((rd_T50 l0_3 x100_3).f0), .int .i64 0, .bool false]) ?_ 1 _ rfl; (with_reducible repeat (first | refine kN ?_ _ | refine kD ?_ | refine kA ?_ _)); refine kP (cs := #[.int .i64 0, .int .i64 0, .bool false]) ?_ 0 _ rfl; (with_reducible repeat (first | refine kN ?_ _ | refine kD ?_ | refine kA ?_ _)); exact BK309.out⟩
       have n2_ : As (Below w.heap.size w (((w110.setCell ⟨gb309, 0, none⟩ (.int .i64 ((rd_T50 l0_3 x100_3).f0))).setCell ⟨gb309, 1, none⟩ (.int .i64 ((rd_T50 l0_3 x100_3).f1))).setCell ⟨gb309, 2, none⟩ (.bool ((rd_T50 l0_3 x100_3).f2)))) := ⟨by repeat (first | (with_reducible first | exact HB.out | apply bA | apply bN | apply bD | refine bS ?_ GE288.out | refine bS ?_ GE309.out) | exact HB.out)⟩
       (try clear BK288)
       (try clear BK309)
       (try clear HB)
       generalize (((w110.setCell ⟨gb309, 0, none⟩ (.int .i64 ((rd_T50 l0_3 x100_3).f0))).setCell ⟨gb309, 1, none⟩ (.int .i64 ((rd_T50 l0_3 x100_3).f1))).setCell ⟨gb309, 2, none⟩ (.bool ((rd_T50 l0_3 x100_3).f2))) = w113 at n0_ n1_ n2_ ⊢
       have BK288 := n0_
       have BK309 := n1_
       have HB := n2_
       clear n0_ n1_ n2_
       have n0_ := As.mk (kD BK288.out)
       have n1_ := As.mk (kD BK309.out)
       have n2_ := As.mk (bD HB.out)
       clear BK288
       clear BK309
       clear HB
       have BK288 := n0_
       have BK309 := n1_
       have HB := n2_
       clear n0_ n1_ n2_
       have p310 : 0 ≤ ((ji105) : Int) := of_decide_eq_true (by first | (with_reducible assumption) | assumption)
       have q310 : (ji105) < (l0_3.length : Int) := of_decide_eq_true (by first | (with_reducible assumption) | assumption)
       obtain ⟨ad310, e310, hx310_0, hx310_1, hx310_2⟩ := at_T50 HR0_3.out (ji105) p310 q310
       have hw310_2 := hx310_2
       have hw310_1 := hx310_1
       have hw310_0 := hx310_0
       obtain rfl : ad308 = ad310 := (by injection e310)
       replace hx310_0 := (HB.out.cell (World.block_lt_of_cell? w _ hx310_0)).trans hx310_0
       replace hx310_1 := (HB.out.cell (World.block_lt_of_cell? w _ hx310_1)).trans hx310_1
       replace hx310_2 := (HB.out.cell (World.block_lt_of_cell? w _ hx310_2)).trans hx310_2
       replace p310 := eq_true p310
       replace q310 := eq_true q310
       refine start_ (n := 37) (S := fun w' => w'.cell? ⟨gb309, 0, none⟩ = some (.int .i64 ((rd_T50 l0_3 x100_3).f0)) ∧ w'.cell? ⟨gb309, 1, none⟩ = some (.int .i64 ((rd_T50 l0_3 x100_3).f1)) ∧ w'.cell? ⟨gb309, 2, none⟩ = some (.bool ((rd_T50 l0_3 x100_3).f2)) ∧ w'.cell? ⟨gb288, 0, none⟩ = some (.int .i64 a0_0) ∧ w'.cell? ⟨gb288, 1, none⟩ = some (.string a0_1) ∧ w'.cell? ⟨gb288, 2, none⟩ = some (.slice A0_2 l0_2.length c0_2) ∧ w'.cell? ⟨gb288, 3, none⟩ = some (.slice (some ad308) l0_3.length c0_3) ∧ w'.cell? (ad308.add (((ji105)).toNat * 3)) = some (.int .i64 ((rd_T50 l0_3 (ji105)).f0)) ∧ w'.cell? ⟨(ad308.add (((ji105)).toNat * 3)).block, (ad308.add (((ji105)).toNat * 3)).off + 1, none⟩ = some (.int .i64 ((rd_T50 l0_3 (ji105)).f1)) ∧ w'.cell? ⟨(ad308.add (((ji105)).toNat * 3)).block, (ad308.add (((ji105)).toNat * 3)).off + 2, none⟩ = some (.bool ((rd_T50 l0_3 (ji105)).f2))) (ds := []) (upB 37 0) (by kernel_rfl) rfl rfl ⟨(kC BK309.out 0).trans rfl, (kC BK309.out 1).trans rfl, (kC BK309.out 2).trans rfl, (kC BK288.out 0).trans rfl, (kC BK288.out 1).trans rfl, (kC BK288.out 2).trans rfl, (kC BK288.out 3).trans rfl, ((HB.out.cell (World.block_lt_of_cell? w _ hw310_0)).trans hw310_0), ((HB.out.cell (World.block_lt_of_cell? w _ hw310_1)).trans hw310_1), ((HB.out.cell (World.block_lt_of_cell? w _ hw310_2)).trans hw310_2)⟩ (fun hHeld => ?_); refine with_tabW catalog_Check.tab23 catalog_Check.bits23 (fun HT_ HW_ => ?_)
       generalize w113.drew = w114 at BK288 BK309 HB hx310_0 hx310_1 hx310_2 hHeld ⊢
       refine sP_ 0 105 HT_ (v := ?_) (hy := ?_) (a' := ?_) (ha := ?_) (h := ?_); rotate_left; (intro w'; go_simp; with_reducible rfl); rotate_left; (simp only [Act.put, zA, zZ, zS, i64_w, i32_w]; rfl)
       refine sT_ 1 106 HT_ HW_ hHeld (v := ?_) (hy := ?_) (a' := ?_) (ha := ?_) (h := ?_); rotate_left; (rintro w' ⟨s0, s1, s2, s3, s4, s5, s6, s7, s8, s9⟩; go_simp; with_reducible rfl); rotate_left; (simp only [Act.put, zA, zZ, zS, i64_w, i32_w]; rfl)
       refine sP_ 2 107 HT_ (v := ?_) (hy := ?_) (a' := ?_) (ha := ?_) (h := ?_); rotate_left; (intro w'; go_simp; with_reducible rfl); rotate_left; (simp only [Act.put, zA, zZ, zS, i64_w, i32_w]; rfl)
       refine sT_ 3 108 HT_ HW_ hHeld (v := ?_) (hy := ?_) (a' := ?_) (ha := ?_) (h := ?_); rotate_left; (rintro w' ⟨s0, s1, s2, s3, s4, s5, s6, s7, s8, s9⟩; go_simp; with_reducible rfl); rotate_left; (simp only [Act.put, zA, zZ, zS, i64_w, i32_w]; rfl)
       refine sP_ 4 109 HT_ (v := ?_) (hy := ?_) (a' := ?_) (ha := ?_) (h := ?_); rotate_left; (intro w'; go_simp; with_reducible rfl); rotate_left; (simp only [Act.put, zA, zZ, zS, i64_w, i32_w]; rfl)
       refine sP_ 5 110 HT_ (v := ?_) (hy := ?_) (a' := ?_) (ha := ?_) (h := ?_); rotate_left; (intro w'; go_simp; with_reducible rfl); rotate_left; (simp only [Act.put, zA, zZ, zS, i64_w, i32_w]; rfl)
       refine sP_ 6 111 HT_ (v := ?_) (hy := ?_) (a' := ?_) (ha := ?_) (h := ?_); rotate_left; (intro w'; go_simp; with_reducible rfl); rotate_left; (simp only [Act.put, zA, zZ, zS, i64_w, i32_w]; rfl)
       refine sP_ 7 112 HT_ (v := ?_) (hy := ?_) (a' := ?_) (ha := ?_) (h := ?_); rotate_left; (intro w'; go_simp; with_reducible rfl); rotate_left; (simp only [Act.put, zA, zZ, zS, i64_w, i32_w]; rfl)
       refine sT_ 8 113 HT_ HW_ hHeld (v := ?_) (hy := ?_) (a' := ?_) (ha := ?_) (h := ?_); rotate_left; (rintro w' ⟨s0, s1, s2, s3, s4, s5, s6, s7, s8, s9⟩; go_simp; with_reducible rfl); rotate_left; (simp only [Act.put, zA, zZ, zS, i64_w, i32_w]; rfl)
       refine sP_ 9 114 HT_ (v := ?_) (hy := ?_) (a' := ?_) (ha := ?_) (h := ?_); rotate_left; (intro w'; go_simp; with_reducible rfl); rotate_left; (simp only [Act.put, zA, zZ, zS, i64_w, i32_w]; rfl)
       refine sT_ 10 115 HT_ HW_ hHeld (v := ?_) (hy := ?_) (a' := ?_) (ha := ?_) (h := ?_); rotate_left; (rintro w' ⟨s0, s1, s2, s3, s4, s5, s6, s7, s8, s9⟩; go_simp; with_reducible rfl); rotate_left; (simp only [Act.put, zA, zZ, zS, i64_w, i32_w]; rfl)
       refine sP_ 11 116 HT_ (v := ?_) (hy := ?_) (a' := ?_) (ha := ?_) (h := ?_); rotate_left; (intro w'; go_simp; with_reducible rfl); rotate_left; (simp only [Act.put, zA, zZ, zS, i64_w, i32_w]; rfl)
       refine sP_ 12 117 HT_ (v := ?_) (hy := ?_) (a' := ?_) (ha := ?_) (h := ?_); rotate_left; (intro w'; go_simp; with_reducible rfl); rotate_left; (simp only [Act.put, zA, zZ, zS, i64_w, i32_w]; rfl)
       refine sP_ 13 118 HT_ (v := ?_) (hy := ?_) (a' := ?_) (ha := ?_) (h := ?_); rotate_left; (intro w'; go_simp; with_reducible rfl); rotate_left; (simp only [Act.put, zA, zZ, zS, i64_w, i32_w]; rfl)
       refine sP_ 14 119 HT_ (v := ?_) (hy := ?_) (a' := ?_) (ha := ?_) (h := ?_); rotate_left; (intro w'; go_simp; with_reducible rfl); rotate_left; (simp only [Act.put, zA, zZ, zS, i64_w, i32_w]; rfl)
       refine sP_ 15 120 HT_ (v := ?_) (hy := ?_) (a' := ?_) (ha := ?_) (h := ?_); rotate_left; (intro w'; go_simp; with_reducible rfl); rotate_left; (simp only [Act.put, zA, zZ, zS, i64_w, i32_w]; rfl)
       refine sP_ 16 121 HT_ (v := ?_) (hy := ?_) (a' := ?_) (ha := ?_) (h := ?_); rotate_left; (intro w'; go_simp; with_reducible rfl); rotate_left; (simp only [Act.put, zA, zZ, zS, i64_w, i32_w]; rfl)
       refine sT_ 17 122 HT_ HW_ hHeld (v := ?_) (hy := ?_) (a' := ?_) (ha := ?_) (h := ?_); rotate_left; (rintro w' ⟨s0, s1, s2, s3, s4, s5, s6, s7, s8, s9⟩; go_simp; with_reducible rfl); rotate_left; (simp only [Act.put, zA, zZ, zS, i64_w, i32_w]; rfl)
       refine sP_ 18 123 HT_ (v := ?_) (hy := ?_) (a' := ?_) (ha := ?_) (h := ?_); rotate_left; (intro w'; go_simp; with_reducible rfl); rotate_left; (simp only [Act.put, zA, zZ, zS, i64_w, i32_w]; rfl)
       refine sT_ 19 124 HT_ HW_ hHeld (v := ?_) (hy := ?_) (a' := ?_) (ha := ?_) (h := ?_); rotate_left; (rintro w' ⟨s0, s1, s2, s3, s4, s5, s6, s7, s8, s9⟩; go_simp; with_reducible rfl); rotate_left; (simp only [Act.put, zA, zZ, zS, i64_w, i32_w]; rfl)
       refine sP_ 20 125 HT_ (v := ?_) (hy := ?_) (a' := ?_) (ha := ?_) (h := ?_); rotate_left; (intro w'; go_simp; with_reducible rfl); rotate_left; (simp only [Act.put, zA, zZ, zS, i64_w, i32_w]; rfl)
       refine sP_ 21 126 HT_ (v := ?_) (hy := ?_) (a' := ?_) (ha := ?_) (h := ?_); rotate_left; (intro w'; go_simp; with_reducible rfl); rotate_left; (simp only [Act.put, zA, zZ, zS, i64_w, i32_w]; rfl)
       refine sP_ 22 127 HT_ (v := ?_) (hy := ?_) (a' := ?_) (ha := ?_) (h := ?_); rotate_left; (intro w'; go_simp; with_reducible rfl); rotate_left; (simp only [Act.put, zA, zZ, zS, i64_w, i32_w]; rfl)
       refine sP_ 23 128 HT_ (v := ?_) (hy := ?_) (a' := ?_) (ha := ?_) (h := ?_); rotate_left; (intro w'; go_simp; with_reducible rfl); rotate_left; (simp only [Act.put, zA, zZ, zS, i64_w, i32_w]; rfl)
       refine sP_ 24 129 HT_ (v := ?_) (hy := ?_) (a' := ?_) (ha := ?_) (h := ?_); rotate_left; (intro w'; go_simp; with_reducible rfl); rotate_left; (simp only [Act.put, zA, zZ, zS, i64_w, i32_w]; rfl)
       refine sP_ 25 130 HT_ (v := ?_) (hy := ?_) (a' := ?_) (ha := ?_) (h := ?_); rotate_left; (intro w'; go_simp; with_reducible rfl); rotate_left; (simp only [Act.put, zA, zZ, zS, i64_w, i32_w]; rfl)
       refine sT_ 26 131 HT_ HW_ hHeld (v := ?_) (hy := ?_) (a' := ?_) (ha := ?_) (h := ?_); rotate_left; (rintro w' ⟨s0, s1, s2, s3, s4, s5, s6, s7, s8, s9⟩; go_simp; with_reducible rfl); rotate_left; (simp only [Act.put, zA, zZ, zS, i64_w, i32_w]; rfl)
       refine sP_ 27 132 HT_ (v := ?_) (hy := ?_) (a' := ?_) (ha := ?_) (h := ?_); rotate_left; (intro w'; go_simp; with_reducible rfl); rotate_left; (simp only [Act.put, zA, zZ, zS, i64_w, i32_w]; rfl)
       refine sT_ 28 133 HT_ HW_ hHeld (v := ?_) (hy := ?_) (a' := ?_) (ha := ?_) (h := ?_); rotate_left; (rintro w' ⟨s0, s1, s2, s3, s4, s5, s6, s7, s8, s9⟩; go_simp; with_reducible rfl); rotate_left; (simp only [Act.put, zA, zZ, zS, i64_w, i32_w]; rfl)
       refine sP_ 29 134 HT_ (v := ?_) (hy := ?_) (a' := ?_) (ha := ?_) (h := ?_); rotate_left; (intro w'; go_simp; with_reducible rfl); rotate_left; (simp only [Act.put, zA, zZ, zS, i64_w, i32_w]; rfl)
       refine sP_ 30 135 HT_ (v := ?_) (hy := ?_) (a' := ?_) (ha := ?_) (h := ?_); rotate_left; (intro w'; go_simp; with_reducible rfl); rotate_left; (simp only [Act.put, zA, zZ, zS, i64_w, i32_w]; rfl)
       refine sP_ 31 136 HT_ (v := ?_) (hy := ?_) (a' := ?_) (ha := ?_) (h := ?_); rotate_left; (intro w'; go_simp; with_reducible rfl); rotate_left; (simp only [Act.put, zA, zZ, zS, i64_w, i32_w]; rfl)
       refine sT_ 32 137 HT_ HW_ hHeld (v := ?_) (hy := ?_) (a' := ?_) (ha := ?_) (h := ?_); rotate_left; (rintro w' ⟨s0, s1, s2, s3, s4, s5, s6, s7, s8, s9⟩; go_simp; with_reducible rfl); rotate_left; (simp only [Act.put, zA, zZ, zS, i64_w, i32_w]; rfl)
       refine one_ (i := 33) (N := some 138) (upB 37 34) rfl rfl (one_of HT_.out (by kernel_rfl)) (by decide) (fun K hK => ?_)
       refine goes_ Tryz.func43 (by kernel_rfl) rfl #[.agg #[.int .i64 ((rd_T50 l0_3 x100_3).f0), .int .i64 ((rd_T50 l0_3 x100_3).f1), .bool ((rd_T50 l0_3 x100_3).f2)], .agg #[.int .i64 ((rd_T50 l0_3 (ji105)).f0), .int .i64 ((rd_T50 l0_3 (ji105)).f1), .bool ((rd_T50 l0_3 (ji105)).f2)]] (by rfl) rfl rfl (by (try simp only [List.map_toArray, List.map_cons, List.map_nil]); first | done | (simp only [hji105]; rfl) | rfl | (simp only [List.length_drop, List.length_take]; rfl)) ?_
       with_reducible refine (catalog_behind.calls ((rd_T50 l0_3 x100_3).f0) ((rd_T50 l0_3 x100_3).f1) ((rd_T50 l0_3 x100_3).f2) ((rd_T50 l0_3 (ji105)).f0) ((rd_T50 l0_3 (ji105)).f1) ((rd_T50 l0_3 (ji105)).f2) true _ A108.out).mono ?_
       rintro e w115 ⟨rfl, hb⟩
       refine ⟨_, rfl, ?_⟩
       have n0_ := As.mk (kB (g := gb288) (o := .cells #[.int .i64 a0_0, .string a0_1, .slice A0_2 l0_2.length c0_2, .slice (some ad308) l0_3.length c0_3] 37 (0, 0)) (by (with_reducible repeat (first | refine kN ?_ _ | refine kD ?_ | refine kA ?_ _)); exact BK288.out) hb)
       have n1_ := As.mk (kB (g := gb309) (o := .cells #[.int .i64 ((rd_T50 l0_3 x100_3).f0), .int .i64 ((rd_T50 l0_3 x100_3).f1), .bool ((rd_T50 l0_3 x100_3).f2)] 50 (0, 0)) (by (with_reducible repeat (first | refine kN ?_ _ | refine kD ?_ | refine kA ?_ _)); exact BK309.out) hb)
       have n2_ := As.mk (bT (by repeat (first | (with_reducible first | exact HB.out | apply bA | apply bN | apply bD | refine bS ?_ GE288.out | refine bS ?_ GE309.out) | exact HB.out)) hb)
       clear BK288
       clear BK309
       clear HB
       have BK288 := n0_
       have BK309 := n1_
       have HB := n2_
       clear n0_ n1_ n2_
       (try clear hb)
       (try clear hb2)
       (try clear hk)
       (try clear hi)
       refine hK.out _ _ ⟨(kC BK309.out 0).trans rfl, (kC BK309.out 1).trans rfl, (kC BK309.out 2).trans rfl, (kC BK288.out 0).trans rfl, (kC BK288.out 1).trans rfl, (kC BK288.out 2).trans rfl, (kC BK288.out 3).trans rfl, ((HB.out.cell (World.block_lt_of_cell? w _ hw310_0)).trans hw310_0), ((HB.out.cell (World.block_lt_of_cell? w _ hw310_1)).trans hw310_1), ((HB.out.cell (World.block_lt_of_cell? w _ hw310_2)).trans hw310_2)⟩ (fun hHeld => ?_)
       clear hK K
       refine norm_ (a' := ?_) ?_ ?_
       rotate_left
       · show Act.put _ (some 138) _ = _
         simp only [Act.put, zA, zZ, zS, i64_w, i32_w]
         rfl
       refine sP_ 34 139 HT_ (v := ?_) (hy := ?_) (a' := ?_) (ha := ?_) (h := ?_); rotate_left; (intro w'; go_simp; with_reducible rfl); rotate_left; (simp only [Act.put, zA, zZ, zS, i64_w, i32_w]; rfl)
       refine sP_ 35 140 HT_ (v := ?_) (hy := ?_) (a' := ?_) (ha := ?_) (h := ?_); rotate_left; (intro w'; go_simp; with_reducible rfl); rotate_left; (simp only [Act.put, zA, zZ, zS, i64_w, i32_w]; rfl)
       refine sP_ 36 141 HT_ (v := ?_) (hy := ?_) (a' := ?_) (ha := ?_) (h := ?_); rotate_left; (intro w'; go_simp; with_reducible rfl); rotate_left; (simp only [Act.put, zA, zZ, zS, i64_w, i32_w]; rfl)
       refine done_ (done_of HT_.out (by kernel_rfl)) ?_
       try go_wp2
       go_roundg k3
       case measure => have := HJ2.out; have := HK2.out; have := HK3.out; omega
       case rel => exact ⟨(wrap64 (x100_3 + 1)), (by first | rfl | (simp; done) | (simp [*]; done)), H', ⟨by have := HJ2.out; have := HK2.out; have := HK3.out; omega⟩, ⟨by (with_reducible repeat (first | refine kN ?_ _ | refine kD ?_ | refine kA ?_ _)); exact BK288.out⟩, ⟨by repeat (first | (with_reducible first | exact HB.out | apply bA | apply bN | apply bD | refine bS ?_ GE288.out | refine bS ?_ GE309.out) | exact HB.out)⟩⟩
end Go.Proofs.YtkgafkoopefghaaGreatDoor.PA
end
