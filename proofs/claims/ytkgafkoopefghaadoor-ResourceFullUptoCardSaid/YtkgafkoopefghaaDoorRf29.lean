/- The law ResourceFull (chapter 06): what is full may be, is full of itself, and keeps what was told: true of every input whose reading is of bulk at most 1048576, and the input reads behind the call as it read before. Conditions: the statement's own bound, and its two tables of unicode/utf8 as the program's text lays them (tied by the card). -/
import Derived.Test.YtkgafkoopefghaaDoorRf27
import Derived.Test.YtkgafkoopefghaaDoorRf6
import Derived.Test.YtkgafkoopefghaaDoorRf12
import Derived.Test.YtkgafkoopefghaaDoorRf28
section
namespace Go.Proofs.YtkgafkoopefghaaDoor.PA
open Go.RowKit Go.Proofs.YtkgafkoopefghaaDoorW.PrintWords Go.Proofs.YtkgafkoopefghaaDoorW.PrintLast Go.Proofs.YtkgafkoopefghaaDoorW.PrintMore
open Go.Proofs.YtkgafkoopefghaaDoor.Hk
attribute [local go_sem high] Go.Proofs.YtkgafkoopefghaaDoor.Hk.binOp_leq_not
attribute [local go_sem] max2_int min2_int max_two min_two max_three min_three max_four min_four   -- for this text's walks alone
set_option linter.unusedVariables false
set_option linter.unusedSimpArgs false
mutual
def majordomolaw06_ResourceFull.j0 : Nat → Bool → Int → Bool → ByteArray → ByteArray → List (S34) → ByteArray → ByteArray → List (S34) → Option (Bool)
  | 0, _, _, _, _, _, _, _, _, _ => none
  | k + 1, x3, x5, x24, x293000, x293001, x293002, x301000, x301001, x301002 => if x24 = true then (if x3 = true then ((resource_Check.f x293000 x293001 x293002).bind fun t301 => (some (x5 == t301))) else (some false)) else ((resource_Full.f x301000 x301001 x301002).bind fun bt302 => ((majordomoref06_Same.f k x301000 x301001 x301002 bt302.1 bt302.2.1 bt302.2.2.1).bind fun t309 => (if bt302.2.2.2 = 0 then (if t309 = true then (if x301000.toList = x293000.toList then (majordomolaw06_ResourceFull.j1 k (x301001.toList != x293001.toList) x293000 x293001 x293002 x301000 x301001 x301002) else (majordomolaw06_ResourceFull.j1 k true x293000 x293001 x293002 x301000 x301001 x301002)) else (majordomolaw06_ResourceFull.j1 k true x293000 x293001 x293002 x301000 x301001 x301002)) else (majordomolaw06_ResourceFull.j1 k true x293000 x293001 x293002 x301000 x301001 x301002))))
def majordomolaw06_ResourceFull.j1 : Nat → Bool → ByteArray → ByteArray → List (S34) → ByteArray → ByteArray → List (S34) → Option (Bool)
  | 0, _, _, _, _, _, _, _ => none
  | k + 1, x59, x293000, x293001, x293002, x301000, x301001, x301002 => if x59 = true then (some false) else (majordomolaw06_ResourceFull.l0 k 0 x293000 x293001 x293002 x301000 x301001 x301002)
def majordomolaw06_ResourceFull.l0 : Nat → Int → ByteArray → ByteArray → List (S34) → ByteArray → ByteArray → List (S34) → Option (Bool)
  | 0, _, _, _, _, _, _, _ => none
  | k + 1, x9, x293000, x293001, x293002, x301000, x301001, x301002 => if x9 < (x293002.length : Int) then (if 0 ≤ x9 then ((resource_Get.f k x301000 x301001 x301002 ((rd_T34 x293002 x9).f0)).bind fun bt311 => (if bt311.2 = true then (if bt311.1.toList = ((rd_T34 x293002 x9).f1).toList then (majordomolaw06_ResourceFull.l0 k (wrap64 (x9 + 1)) x293000 x293001 x293002 x301000 x301001 x301002) else (some false)) else (some false))) else (none)) else (majordomolaw06_ResourceFull.l1 k 1 x301000 x301001 x301002)
def majordomolaw06_ResourceFull.l1 : Nat → Int → ByteArray → ByteArray → List (S34) → Option (Bool)
  | 0, _, _, _, _ => none
  | k + 1, x12, x301000, x301001, x301002 => if x12 < (x301002.length : Int) then (if 0 ≤ x12 then (if 0 ≤ (wrap64 (x12 - 1)) then (if (wrap64 (x12 - 1)) < (x301002.length : Int) then (if ((Op.bytesLess (((rd_T34 x301002 (wrap64 (x12 - 1))).f0).toList) (((rd_T34 x301002 x12).f0).toList)) = true) then (majordomolaw06_ResourceFull.l1 k (wrap64 (x12 + 1)) x301000 x301001 x301002) else (some false)) else (none)) else (none)) else (none)) else (some true)
end
def majordomolaw06_ResourceFull.f (k : Nat) (a0_0 : ByteArray) (a0_1 : ByteArray) (l0_2 : List (S34)) : Option (Bool) := (majordomolaw06_shown.f).bind fun t293 => ((resource_Full.f a0_0 a0_1 l0_2).bind fun bt294 => (if t293 = true then (majordomolaw06_ResourceFull.j0 k t293 bt294.2.2.2 (bt294.2.2.2 != 0) a0_0 a0_1 l0_2 bt294.1 bt294.2.1 bt294.2.2.1) else (majordomolaw06_ResourceFull.j0 k t293 bt294.2.2.2 true a0_0 a0_1 l0_2 bt294.1 bt294.2.1 bt294.2.2.1)))
def majordomolaw06_ResourceFull.T12 : Bool × List (List Nat × List Nat) := (true, [([], []), ([], []), ([1], [1]), ([], []), ([2, 3], [2, 3]), ([4], [4]), ([5], [5]), ([0, 6], [0, 6]), ([7], [7]), ([8], [8]), ([8], [8]), ([9, 7, 0, 1, 2, 3, 4, 5, 6, 7, 8, 9], [9]), ([10, 11, 0, 1, 2, 3, 4, 5, 6, 7, 8, 9, 10, 11], [10])])
def majordomolaw06_ResourceFull.B12 : List Nat := [0, 0, 2, 0, 14, 30, 62, 127, 255, 511, 511, 1023, 4095]
theorem majordomolaw06_ResourceFull.tab12 : rtab .any (opsOf Tryd.f3 12) = majordomolaw06_ResourceFull.T12 := by kernel_rfl
theorem majordomolaw06_ResourceFull.bits12 : waitsOk majordomolaw06_ResourceFull.T12.2 majordomolaw06_ResourceFull.B12 = true := by kernel_rfl
def majordomolaw06_ResourceFull.T18 : Bool × List (List Nat × List Nat) := (true, [([], []), ([0], [0]), ([], []), ([1, 2], [1, 2]), ([3], [3]), ([4], [4]), ([], []), ([6], [6]), ([], []), ([8], [8]), ([7, 9], [7, 9]), ([10], [10]), ([11], [11]), ([5, 12], [5, 12])])
def majordomolaw06_ResourceFull.B18 : List Nat := [0, 1, 0, 7, 15, 31, 0, 64, 0, 256, 960, 1984, 4032, 8191]
theorem majordomolaw06_ResourceFull.tab18 : rtab .any (opsOf Tryd.f3 18) = majordomolaw06_ResourceFull.T18 := by kernel_rfl
theorem majordomolaw06_ResourceFull.bits18 : waitsOk majordomolaw06_ResourceFull.T18.2 majordomolaw06_ResourceFull.B18 = true := by kernel_rfl
set_option maxHeartbeats 8000000 in
set_option maxRecDepth 100000 in
theorem majordomolaw06_ResourceFull.calls (k : Nat) (a0_0 : ByteArray) (a0_1 : ByteArray) (A0_2 : Option Addr) (c0_2 : Nat) (l0_2 : List (S34)) (r : Bool) (w : World) (hr0_2 : Kd.C k34 w A0_2 l0_2.length l0_2) (hc0_2 : l0_2.length ≤ c0_2) (h : majordomolaw06_ResourceFull.f k a0_0 a0_1 l0_2 = some r) (hU : UtfOk w) :
    Calls Tryd.prog 3 #[.agg #[.string a0_0, .string a0_1, .slice A0_2 l0_2.length c0_2]] w fun e w' => e = .returned (.bool r) ∧ Below w.heap.size w w' := by
  have HU := Aside0.mk hU
  clear hU
  have hu24 := Tryd.underlying24
  have HR0_2 := Aside0.mk hr0_2
  have HC0_2 := Aside0.mk hc0_2
  clear hr0_2 hc0_2
  have HB := Aside0.mk (Below.refl w.heap.size w)
  have H : ((majordomolaw06_shown.f).bind fun t293 => ((resource_Full.f a0_0 a0_1 l0_2).bind fun bt294 => (if t293 = true then (majordomolaw06_ResourceFull.j0 k t293 bt294.2.2.2 (bt294.2.2.2 != 0) a0_0 a0_1 l0_2 bt294.1 bt294.2.1 bt294.2.2.1) else (majordomolaw06_ResourceFull.j0 k t293 bt294.2.2.2 true a0_0 a0_1 l0_2 bt294.1 bt294.2.1 bt294.2.2.1)))) = some r := h
  clear h
  replace H := Option.bind_eq_some_iff.mp H
  obtain ⟨t293, A20, H⟩ := H
  replace H : ((resource_Full.f a0_0 a0_1 l0_2).bind fun bt294 => (if t293 = true then (majordomolaw06_ResourceFull.j0 k t293 bt294.2.2.2 (bt294.2.2.2 != 0) a0_0 a0_1 l0_2 bt294.1 bt294.2.1 bt294.2.2.1) else (majordomolaw06_ResourceFull.j0 k t293 bt294.2.2.2 true a0_0 a0_1 l0_2 bt294.1 bt294.2.1 bt294.2.2.1))) = some r := H
  have A2 := Aside0.mk A20
  clear A20
  replace H := Option.bind_eq_some_iff.mp H
  obtain ⟨⟨t294, t295, t296, t299⟩, A30, H⟩ := H
  replace H : (if t293 = true then (majordomolaw06_ResourceFull.j0 k t293 t299 (t299 != 0) a0_0 a0_1 l0_2 t294 t295 t296) else (majordomolaw06_ResourceFull.j0 k t293 t299 true a0_0 a0_1 l0_2 t294 t295 t296)) = some r := H
  have A3 := Aside0.mk A30
  clear A30
  have HC4 := Aside0.mk H
  clear H
  go_enter Tryd.func3, Tryd.ntmps3
  go_upto_region 3 with (first | ((with_reducible refine gate_dst (N := 1) rfl ?_); refine box_event ?hg (N := 1) ?hd (cs := #[.string a0_0, .string a0_1, .slice A0_2 l0_2.length c0_2]) (t := 24) ?hr ?_; (case hd => rfl); (case hg => rfl); (case hr => first | (go_simp; done) | (go_simp; rfl)); intro gb292 hg w5 hbox hb; have n0_ := Aside0.mk (below_step (by repeat (first | (with_reducible first | exact HB.out | apply below_alloc | apply pw_below_drewN | apply below_drew1) | exact HB.out)) hb); have n1_ := Aside0.mk (hbox); have n2_ := Aside0.mk ((by rw [hg]; exact (below_size (by repeat (first | (with_reducible first | exact HB.out | apply below_alloc | apply pw_below_drewN | apply below_drew1) | exact HB.out))) : w.heap.size ≤ gb292)); have n3_ := Aside0.mk ((by rw [hg]; exact (below_size (by repeat (first | (with_reducible first | exact HB.out | apply below_alloc | apply pw_below_drewN | apply below_drew1) | exact HB.out))) : w.heap.size ≤ gb292)); clear HB; have HB := n0_; have BK292 := n1_; have GW292 := n2_; have GE292 := n3_; clear n0_ n1_ n2_ n3_; clear hb hbox hg) | ((with_reducible refine gate_callee (f := 7) rfl ?_); refine goesL_ (some 13) rfl rfl Tryd.func7 (by kernel_rfl) rfl #[] rfl (by (try simp only [List.map_toArray, List.map_cons, List.map_nil]); first | done | rfl | (simp only [List.length_drop, List.length_take]; rfl)) ?_; (with_reducible refine (majordomolaw06_shown.calls  t293 _ A2.out (UtfOk.of_below HU.out (by repeat (first | (with_reducible first | exact HB.out | apply below_alloc | apply pw_below_drewN | apply below_drew1 | refine below_set ?_ GE292.out) | exact HB.out)))).mono ?_); rintro e w6 ⟨rfl, hb⟩; refine ⟨_, rfl, ?_⟩; have n0_ := Aside0.mk (blk_below (g := gb292) (o := .cells #[.string a0_0, .string a0_1, .slice A0_2 l0_2.length c0_2] 24 (0, 0)) (by (with_reducible repeat (first | refine blk_drewN ?_ _ | refine blk_drew ?_ | refine blk_alloc ?_ _)); exact BK292.out) hb); have n1_ := Aside0.mk (below_step (by repeat (first | (with_reducible first | exact HB.out | apply below_alloc | apply pw_below_drewN | apply below_drew1 | refine below_set ?_ GE292.out) | exact HB.out)) hb); clear BK292; clear HB; have BK292 := n0_; have HB := n1_; clear n0_ n1_; (try clear hb); (try clear hb2); (try clear hk); (try clear hi); have hcz7_0 : w6.cell? ⟨gb292, 0, none⟩ = some (.string a0_0) := (blk_cell BK292.out 0).trans rfl; have hcz7_1 : w6.cell? ⟨gb292, 1, none⟩ = some (.string a0_1) := (blk_cell BK292.out 1).trans rfl; have hcz7_2 : w6.cell? ⟨gb292, 2, none⟩ = some (.slice A0_2 l0_2.length c0_2) := (blk_cell BK292.out 2).trans rfl; have hfz7_0 := blk_frozen BK292.out 0; have hfz7_1 := blk_frozen BK292.out 1; have hfz7_2 := blk_frozen BK292.out 2) | ((with_reducible refine gate_callee (f := 8) rfl ?_); refine goesL_ (some 16) rfl rfl Tryd.func8 (by kernel_rfl) rfl #[.agg #[.string a0_0, .string a0_1, .slice A0_2 l0_2.length c0_2]] rfl (by (try simp only [List.map_toArray, List.map_cons, List.map_nil]); first | done | rfl | (simp only [List.length_drop, List.length_take]; rfl)) ?_; (with_reducible refine (resource_Full.calls a0_0 a0_1 _ _ l0_2 t294 t295 t296 t299 _ ?side1 ?side2 A3.out (UtfOk.of_below HU.out (by repeat (first | (with_reducible first | exact HB.out | apply below_alloc | apply pw_below_drewN | apply below_drew1 | refine below_set ?_ GE292.out) | exact HB.out)))).mono ?_); (case side1 => repeat (first | exact (Kd.C_below HR0_2.out HB.out) | (with_reducible refine Kd.C_alloc ?_ _) | (with_reducible refine Kd.C_drewN ?_ _) | (with_reducible refine Kd.C_drew ?_))); (case side2 => exact HC0_2.out); rintro e w8 ⟨v297, rfl, ho0, hb⟩; refine ⟨_, rfl, ?_⟩; have n0_ := Aside0.mk (Kd.R_lower ho0 (below_size (by repeat (first | (with_reducible first | exact HB.out | apply below_alloc | apply pw_below_drewN | apply below_drew1 | refine below_set ?_ GE292.out) | exact HB.out)))); have n1_ := Aside0.mk (blk_below (g := gb292) (o := .cells #[.string a0_0, .string a0_1, .slice A0_2 l0_2.length c0_2] 24 (0, 0)) (by (with_reducible repeat (first | refine blk_drewN ?_ _ | refine blk_drew ?_ | refine blk_alloc ?_ _)); exact BK292.out) hb); have n2_ := Aside0.mk (below_step (by repeat (first | (with_reducible first | exact HB.out | apply below_alloc | apply pw_below_drewN | apply below_drew1 | refine below_set ?_ GE292.out) | exact HB.out)) hb); clear BK292; clear HB; have HO298 := n0_; have BK292 := n1_; have HB := n2_; clear n0_ n1_ n2_; (try clear hb); (try clear hb2); (try clear hk); (try clear hi); (try clear ho0)) | ((with_reducible refine gate_dst (N := 4) rfl ?_); refine box_event ?hg (N := 4) ?hd (cs := #[.string (⟨#[]⟩ : ByteArray), .string (⟨#[]⟩ : ByteArray), .slice none 0 0]) (t := 24) ?hr ?_; (case hd => rfl); (case hg => rfl); (case hr => first | (go_simp; done) | (go_simp; rfl)); intro gb300 hg w9 hbox hb; have n0_ := Aside0.mk (Kd.R_below (by (with_reducible repeat (first | apply Kd.R_alloc | apply Kd.R_drewN | apply Kd.R_drew)); exact HO298.out) hb); have n1_ := Aside0.mk (blk_below (g := gb292) (o := .cells #[.string a0_0, .string a0_1, .slice A0_2 l0_2.length c0_2] 24 (0, 0)) (by (with_reducible repeat (first | refine blk_drewN ?_ _ | refine blk_drew ?_ | refine blk_alloc ?_ _)); exact BK292.out) hb); have n2_ := Aside0.mk (below_step (by repeat (first | (with_reducible first | exact HB.out | apply below_alloc | apply pw_below_drewN | apply below_drew1 | refine below_set ?_ GE292.out) | exact HB.out)) hb); have n3_ := Aside0.mk (hbox); have n4_ := Aside0.mk ((by rw [hg]; exact (below_size (by repeat (first | (with_reducible first | exact HB.out | apply below_alloc | apply pw_below_drewN | apply below_drew1 | refine below_set ?_ GE292.out) | exact HB.out))) : w.heap.size ≤ gb300)); have n5_ := Aside0.mk ((by rw [hg]; exact (below_size (by repeat (first | (with_reducible first | exact HB.out | apply below_alloc | apply pw_below_drewN | apply below_drew1 | refine below_set ?_ GE292.out) | exact HB.out))) : w.heap.size ≤ gb300)); have n6_ := Aside0.mk ((by rw [hg]; exact Nat.ne_of_lt (blk_lt (g := gb292) (o := .cells #[.string a0_0, .string a0_1, .slice A0_2 l0_2.length c0_2] 24 (0, 0)) (by (with_reducible repeat (first | refine blk_drewN ?_ _ | refine blk_drew ?_ | refine blk_alloc ?_ _)); exact BK292.out)) : gb292 ≠ gb300)); have n7_ := Aside0.mk ((by rw [hg]; exact Nat.ne_of_gt (blk_lt (g := gb292) (o := .cells #[.string a0_0, .string a0_1, .slice A0_2 l0_2.length c0_2] 24 (0, 0)) (by (with_reducible repeat (first | refine blk_drewN ?_ _ | refine blk_drew ?_ | refine blk_alloc ?_ _)); exact BK292.out)) : gb300 ≠ gb292)); clear HO298; clear BK292; clear HB; have HO298 := n0_; have BK292 := n1_; have HB := n2_; have BK300 := n3_; have GW300 := n4_; have GE300 := n5_; have NB292_300 := n6_; have NB300_292 := n7_; clear n0_ n1_ n2_ n3_ n4_ n5_ n6_ n7_; clear hb hbox hg; have hnb10 := NB300_292.out; have hnc10 := NB292_300.out; have hcz11_0 : w9.cell? ⟨gb300, 0, none⟩ = some (.string (⟨#[]⟩ : ByteArray)) := (blk_cell BK300.out 0).trans rfl; have hcz11_1 : w9.cell? ⟨gb300, 1, none⟩ = some (.string (⟨#[]⟩ : ByteArray)) := (blk_cell BK300.out 1).trans rfl; have hcz11_2 : w9.cell? ⟨gb300, 2, none⟩ = some (.slice none 0 0) := (blk_cell BK300.out 2).trans rfl; have hfz11_0 := blk_frozen BK300.out 0; have hfz11_1 := blk_frozen BK300.out 1; have hfz11_2 := blk_frozen BK300.out 2; obtain ⟨Ao12, co12, eo12⟩ := Kd.R_slice HO298.out; subst eo12))
  (try simp only [Act.put, List.setIfInBounds_toArray, List.set_cons_zero, List.set_cons_succ])
  go_cut [24] (fun v24 wc => ∃ (kq : Nat) (x24_3 : Bool), v24 = .bool x24_3 ∧ Aside0 (majordomolaw06_ResourceFull.j0 kq t293 t299 x24_3 a0_0 a0_1 l0_2 t294 t295 t296 = some r) ∧ Aside0 (kq ≤ k) ∧ Aside0 (Kd.R k34 34 wc w.heap.size (fun _ => True) (.slice Ao12 t296.length co12) t296) ∧ Aside0 (wc.heap[gb292]? = some (.cells #[.string a0_0, .string a0_1, (.slice A0_2 l0_2.length c0_2)] 24 (0, 0))) ∧ Aside0 (wc.heap[gb300]? = some (.cells #[.string t294, .string t295, (.slice Ao12 t296.length co12)] 24 (0, 0))) ∧ Aside0 (Below w.heap.size w wc))
  case first =>
    have H := HC4.out
    clear HC4
    by_cases c13 : t293 = true
    · subst c13
      have H1 : (majordomolaw06_ResourceFull.j0 k true t299 (t299 != 0) a0_0 a0_1 l0_2 t294 t295 t296) = some r := by rw [if_pos rfl] at H; exact H
      clear H
      have H := H1
      clear H1
      have H' := Aside0.mk H
      clear H
      go_wp2
      go_meet
      case rel => exact ⟨_, ((t299 != 0)), (by first | rfl | (simp; done) | (simp [*]; done)), H', ⟨by first | omega | exact Nat.le_refl _⟩, ⟨by (with_reducible repeat (first | apply Kd.R_alloc | apply Kd.R_drewN | apply Kd.R_drew)); exact Kd.R_mono (Kd.R_far (p := ⟨gb300, 2, none⟩) (Kd.R_far (p := ⟨gb300, 1, none⟩) (Kd.R_far (p := ⟨gb300, 0, none⟩) (Kd.R_types HO298.out BK300.out (by decide)) (fun _ hk => hk.2) (.string t294)) (fun _ hk => hk.2) (.string t295)) (fun _ hk => hk.2) (.slice Ao12 t296.length co12)) (fun _ hk => trivial)⟩, ⟨by (with_reducible repeat (first | refine blk_drewN ?_ _ | refine blk_drew ?_ | refine blk_alloc ?_ _)); refine blk_far ?_ NB292_300.out _; (with_reducible repeat (first | refine blk_drewN ?_ _ | refine blk_drew ?_ | refine blk_alloc ?_ _)); refine blk_far ?_ NB292_300.out _; (with_reducible repeat (first | refine blk_drewN ?_ _ | refine blk_drew ?_ | refine blk_alloc ?_ _)); refine blk_far ?_ NB292_300.out _; (with_reducible repeat (first | refine blk_drewN ?_ _ | refine blk_drew ?_ | refine blk_alloc ?_ _)); exact BK292.out⟩, ⟨by (with_reducible repeat (first | refine blk_drewN ?_ _ | refine blk_drew ?_ | refine blk_alloc ?_ _)); refine blk_put (cs := #[.string t294, .string t295, .slice none 0 0]) ?_ 2 _ rfl; (with_reducible repeat (first | refine blk_drewN ?_ _ | refine blk_drew ?_ | refine blk_alloc ?_ _)); refine blk_put (cs := #[.string t294, .string (⟨#[]⟩ : ByteArray), .slice none 0 0]) ?_ 1 _ rfl; (with_reducible repeat (first | refine blk_drewN ?_ _ | refine blk_drew ?_ | refine blk_alloc ?_ _)); refine blk_put (cs := #[.string (⟨#[]⟩ : ByteArray), .string (⟨#[]⟩ : ByteArray), .slice none 0 0]) ?_ 0 _ rfl; (with_reducible repeat (first | refine blk_drewN ?_ _ | refine blk_drew ?_ | refine blk_alloc ?_ _)); exact BK300.out⟩, ⟨by repeat (first | (with_reducible first | exact HB.out | apply below_alloc | apply pw_below_drewN | apply below_drew1 | refine below_set ?_ GE292.out | refine below_set ?_ GE300.out) | exact HB.out)⟩⟩
    · replace c13 := Bool.eq_false_iff.mpr c13
      subst c13
      have H1 : (majordomolaw06_ResourceFull.j0 k false t299 true a0_0 a0_1 l0_2 t294 t295 t296) = some r := by rw [if_neg (show ¬ (false = true) by decide)] at H; exact H
      clear H
      have H := H1
      clear H1
      have H' := Aside0.mk H
      clear H
      go_wp2
      go_meet
      case rel => exact ⟨_, (true), (by first | rfl | (simp; done) | (simp [*]; done)), H', ⟨by first | omega | exact Nat.le_refl _⟩, ⟨by (with_reducible repeat (first | apply Kd.R_alloc | apply Kd.R_drewN | apply Kd.R_drew)); exact Kd.R_mono (Kd.R_far (p := ⟨gb300, 2, none⟩) (Kd.R_far (p := ⟨gb300, 1, none⟩) (Kd.R_far (p := ⟨gb300, 0, none⟩) (Kd.R_types HO298.out BK300.out (by decide)) (fun _ hk => hk.2) (.string t294)) (fun _ hk => hk.2) (.string t295)) (fun _ hk => hk.2) (.slice Ao12 t296.length co12)) (fun _ hk => trivial)⟩, ⟨by (with_reducible repeat (first | refine blk_drewN ?_ _ | refine blk_drew ?_ | refine blk_alloc ?_ _)); refine blk_far ?_ NB292_300.out _; (with_reducible repeat (first | refine blk_drewN ?_ _ | refine blk_drew ?_ | refine blk_alloc ?_ _)); refine blk_far ?_ NB292_300.out _; (with_reducible repeat (first | refine blk_drewN ?_ _ | refine blk_drew ?_ | refine blk_alloc ?_ _)); refine blk_far ?_ NB292_300.out _; (with_reducible repeat (first | refine blk_drewN ?_ _ | refine blk_drew ?_ | refine blk_alloc ?_ _)); exact BK292.out⟩, ⟨by (with_reducible repeat (first | refine blk_drewN ?_ _ | refine blk_drew ?_ | refine blk_alloc ?_ _)); refine blk_put (cs := #[.string t294, .string t295, .slice none 0 0]) ?_ 2 _ rfl; (with_reducible repeat (first | refine blk_drewN ?_ _ | refine blk_drew ?_ | refine blk_alloc ?_ _)); refine blk_put (cs := #[.string t294, .string (⟨#[]⟩ : ByteArray), .slice none 0 0]) ?_ 1 _ rfl; (with_reducible repeat (first | refine blk_drewN ?_ _ | refine blk_drew ?_ | refine blk_alloc ?_ _)); refine blk_put (cs := #[.string (⟨#[]⟩ : ByteArray), .string (⟨#[]⟩ : ByteArray), .slice none 0 0]) ?_ 0 _ rfl; (with_reducible repeat (first | refine blk_drewN ?_ _ | refine blk_drew ?_ | refine blk_alloc ?_ _)); exact BK300.out⟩, ⟨by repeat (first | (with_reducible first | exact HB.out | apply below_alloc | apply pw_below_drewN | apply below_drew1 | refine below_set ?_ GE292.out | refine below_set ?_ GE300.out) | exact HB.out)⟩⟩
  case rest =>
    clear HC4
    try clear c1
    try clear p2
    try clear c3
    try clear c7
    try clear c8
    try clear c10
    try clear c13
    try clear hcz11_0
    try clear hcz11_1
    try clear hcz11_2
    try clear hcz7_0
    try clear hcz7_1
    try clear hcz7_2
    try clear hfz11_0
    try clear hfz11_1
    try clear hfz11_2
    try clear hfz7_0
    try clear hfz7_1
    try clear hfz7_2
    obtain ⟨kq, x24_3, rfl, HA, HJ3, HO_301002, BK292, BK300, HB⟩ := hcut
    cases kq with
    | zero => exact absurd HA.out (by simp [majordomolaw06_ResourceFull.j0])
    | succ kj3 =>
      have H := HA.out
      clear HA
      simp only [majordomolaw06_ResourceFull.j0] at H
      by_cases c14 : x24_3 = true
      · subst c14
        have H1 : (if t293 = true then ((resource_Check.f a0_0 a0_1 l0_2).bind fun t301 => (some (t299 == t301))) else (some false)) = some r := by rw [if_pos rfl] at H; exact H
        clear H
        have H := H1
        clear H1
        by_cases c15 : t293 = true
        · subst c15
          have H1 : ((resource_Check.f a0_0 a0_1 l0_2).bind fun t301 => (some (t299 == t301))) = some r := by rw [if_pos rfl] at H; exact H
          clear H
          have H := H1
          clear H1
          replace H := Option.bind_eq_some_iff.mp H
          obtain ⟨t301, A160, H⟩ := H
          replace H : (some (t299 == t301)) = some r := H
          have A16 := Aside0.mk A160
          clear A160
          obtain rfl := Option.some.inj H
          have hnb17 := NB292_300.out
          have hnc17 := NB300_292.out
          have hcz18_0 : wc.cell? ⟨gb292, 0, none⟩ = some (.string a0_0) := (blk_cell BK292.out 0).trans rfl
          have hcz18_1 : wc.cell? ⟨gb292, 1, none⟩ = some (.string a0_1) := (blk_cell BK292.out 1).trans rfl
          have hcz18_2 : wc.cell? ⟨gb292, 2, none⟩ = some (.slice A0_2 l0_2.length c0_2) := (blk_cell BK292.out 2).trans rfl
          have hfz18_0 := blk_frozen BK292.out 0
          have hfz18_1 := blk_frozen BK292.out 1
          have hfz18_2 := blk_frozen BK292.out 2
          go_wp2_with (first | (go_at_call 9; (with_reducible refine (resource_Check.calls a0_0 a0_1 _ _ l0_2 t301 _ ?side1 ?side2 A16.out (UtfOk.of_below HU.out (by repeat (first | (with_reducible first | exact HB.out | apply below_alloc | apply pw_below_drewN | apply below_drew1 | refine below_set ?_ GE292.out | refine below_set ?_ GE300.out) | exact HB.out)))).mono ?_); (case side1 => repeat (first | exact (Kd.C_below HR0_2.out HB.out) | (with_reducible refine Kd.C_alloc ?_ _) | (with_reducible refine Kd.C_drewN ?_ _) | (with_reducible refine Kd.C_drew ?_))); (case side2 => exact HC0_2.out); rintro e w19 ⟨rfl, hb⟩; have n0_ := Aside0.mk (Kd.R_below (by (with_reducible repeat (first | apply Kd.R_alloc | apply Kd.R_drewN | apply Kd.R_drew)); exact HO_301002.out) hb); have n1_ := Aside0.mk (blk_below (g := gb292) (o := .cells #[.string a0_0, .string a0_1, .slice A0_2 l0_2.length c0_2] 24 (0, 0)) (by (with_reducible repeat (first | refine blk_drewN ?_ _ | refine blk_drew ?_ | refine blk_alloc ?_ _)); exact BK292.out) hb); have n2_ := Aside0.mk (blk_below (g := gb300) (o := .cells #[.string t294, .string t295, .slice Ao12 t296.length co12] 24 (0, 0)) (by (with_reducible repeat (first | refine blk_drewN ?_ _ | refine blk_drew ?_ | refine blk_alloc ?_ _)); exact BK300.out) hb); have n3_ := Aside0.mk (below_step (by repeat (first | (with_reducible first | exact HB.out | apply below_alloc | apply pw_below_drewN | apply below_drew1 | refine below_set ?_ GE292.out | refine below_set ?_ GE300.out) | exact HB.out)) hb); clear HO_301002; clear BK292; clear BK300; clear HB; have HO_301002 := n0_; have BK292 := n1_; have BK300 := n2_; have HB := n3_; clear n0_ n1_ n2_ n3_; (try clear hb); (try clear hb2); (try clear hk); (try clear hi)))
          go_ret
          exact ⟨by first | rfl | (simp [errW_none, errW_some] <;> rfl) | (simp [*, errW_none, errW_some] <;> rfl), by repeat (first | (with_reducible first | exact HB.out | apply below_alloc | apply pw_below_drewN | apply below_drew1 | refine below_set ?_ GE292.out | refine below_set ?_ GE300.out) | exact HB.out)⟩
        · replace c15 := Bool.eq_false_iff.mpr c15
          subst c15
          have H1 : (some false) = some r := by rw [if_neg (show ¬ (false = true) by decide)] at H; exact H
          clear H
          have H := H1
          clear H1
          obtain rfl := Option.some.inj H
          go_wp2
          go_ret
          exact ⟨by first | rfl | (simp [errW_none, errW_some] <;> rfl) | (simp [*, errW_none, errW_some] <;> rfl), by repeat (first | (with_reducible first | exact HB.out | apply below_alloc | apply pw_below_drewN | apply below_drew1 | refine below_set ?_ GE292.out | refine below_set ?_ GE300.out) | exact HB.out)⟩
      · replace c14 := Bool.eq_false_iff.mpr c14
        subst c14
        have H1 : ((resource_Full.f t294 t295 t296).bind fun bt302 => ((majordomoref06_Same.f kj3 t294 t295 t296 bt302.1 bt302.2.1 bt302.2.2.1).bind fun t309 => (if bt302.2.2.2 = 0 then (if t309 = true then (if t294.toList = a0_0.toList then (majordomolaw06_ResourceFull.j1 kj3 (t295.toList != a0_1.toList) a0_0 a0_1 l0_2 t294 t295 t296) else (majordomolaw06_ResourceFull.j1 kj3 true a0_0 a0_1 l0_2 t294 t295 t296)) else (majordomolaw06_ResourceFull.j1 kj3 true a0_0 a0_1 l0_2 t294 t295 t296)) else (majordomolaw06_ResourceFull.j1 kj3 true a0_0 a0_1 l0_2 t294 t295 t296)))) = some r := by rw [if_neg (show ¬ (false = true) by decide)] at H; exact H
        clear H
        have H := H1
        clear H1
        replace H := Option.bind_eq_some_iff.mp H
        obtain ⟨⟨t302, t303, t304, t307⟩, A200, H⟩ := H
        replace H : ((majordomoref06_Same.f kj3 t294 t295 t296 t302 t303 t304).bind fun t309 => (if t307 = 0 then (if t309 = true then (if t294.toList = a0_0.toList then (majordomolaw06_ResourceFull.j1 kj3 (t295.toList != a0_1.toList) a0_0 a0_1 l0_2 t294 t295 t296) else (majordomolaw06_ResourceFull.j1 kj3 true a0_0 a0_1 l0_2 t294 t295 t296)) else (majordomolaw06_ResourceFull.j1 kj3 true a0_0 a0_1 l0_2 t294 t295 t296)) else (majordomolaw06_ResourceFull.j1 kj3 true a0_0 a0_1 l0_2 t294 t295 t296))) = some r := H
        have A20 := Aside0.mk A200
        clear A200
        replace H := Option.bind_eq_some_iff.mp H
        obtain ⟨t309, A210, H⟩ := H
        replace H : (if t307 = 0 then (if t309 = true then (if t294.toList = a0_0.toList then (majordomolaw06_ResourceFull.j1 kj3 (t295.toList != a0_1.toList) a0_0 a0_1 l0_2 t294 t295 t296) else (majordomolaw06_ResourceFull.j1 kj3 true a0_0 a0_1 l0_2 t294 t295 t296)) else (majordomolaw06_ResourceFull.j1 kj3 true a0_0 a0_1 l0_2 t294 t295 t296)) else (majordomolaw06_ResourceFull.j1 kj3 true a0_0 a0_1 l0_2 t294 t295 t296)) = some r := H
        have A21 := Aside0.mk A210
        clear A210
        have HC22 := Aside0.mk H
        clear H
        have hnb23 := NB300_292.out
        have hnc23 := NB292_300.out
        have hcz24_0 : wc.cell? ⟨gb300, 0, none⟩ = some (.string t294) := (blk_cell BK300.out 0).trans rfl
        have hcz24_1 : wc.cell? ⟨gb300, 1, none⟩ = some (.string t295) := (blk_cell BK300.out 1).trans rfl
        have hcz24_2 : wc.cell? ⟨gb300, 2, none⟩ = some (.slice Ao12 t296.length co12) := (blk_cell BK300.out 2).trans rfl
        have hfz24_0 := blk_frozen BK300.out 0
        have hfz24_1 := blk_frozen BK300.out 1
        have hfz24_2 := blk_frozen BK300.out 2
        go_upto_region 7 with (first | ((with_reducible refine gate_callee (f := 8) rfl ?_); refine goesL_ (some 34) rfl rfl Tryd.func8 (by kernel_rfl) rfl #[.agg #[.string t294, .string t295, .slice Ao12 t296.length co12]] rfl (by (try simp only [List.map_toArray, List.map_cons, List.map_nil]); first | done | rfl | (simp only [List.length_drop, List.length_take]; rfl)) ?_; (with_reducible refine (resource_Full.calls t294 t295 _ _ t296 t302 t303 t304 t307 _ ?side1 ?side2 A20.out (UtfOk.of_below HU.out (by repeat (first | (with_reducible first | exact HB.out | apply below_alloc | apply pw_below_drewN | apply below_drew1 | refine below_set ?_ GE292.out | refine below_set ?_ GE300.out) | exact HB.out)))).mono ?_); (case side1 => repeat (first | exact (Kd.R_reads' HO_301002.out).2.2 | (with_reducible refine Kd.C_alloc ?_ _) | (with_reducible refine Kd.C_drewN ?_ _) | (with_reducible refine Kd.C_drew ?_))); (case side2 => exact (Kd.R_reads' HO_301002.out).2.1); rintro e w25 ⟨v305, rfl, ho0, hb⟩; refine ⟨_, rfl, ?_⟩; have n0_ := Aside0.mk (Kd.R_elder' (by (with_reducible repeat (first | apply Kd.R_alloc | apply Kd.R_drewN | apply Kd.R_drew)); exact HO_301002.out) (Kd.R_base ho0) hb); have n1_ := Aside0.mk (Kd.R_lower (Kd.R_new' ho0 (Kd.R_lt (by (with_reducible repeat (first | apply Kd.R_alloc | apply Kd.R_drewN | apply Kd.R_drew)); exact HO_301002.out))) (below_size (by repeat (first | (with_reducible first | exact HB.out | apply below_alloc | apply pw_below_drewN | apply below_drew1 | refine below_set ?_ GE292.out | refine below_set ?_ GE300.out) | exact HB.out)))); have n2_ := Aside0.mk (blk_below (g := gb292) (o := .cells #[.string a0_0, .string a0_1, .slice A0_2 l0_2.length c0_2] 24 (0, 0)) (by (with_reducible repeat (first | refine blk_drewN ?_ _ | refine blk_drew ?_ | refine blk_alloc ?_ _)); exact BK292.out) hb); have n3_ := Aside0.mk (blk_below (g := gb300) (o := .cells #[.string t294, .string t295, .slice Ao12 t296.length co12] 24 (0, 0)) (by (with_reducible repeat (first | refine blk_drewN ?_ _ | refine blk_drew ?_ | refine blk_alloc ?_ _)); exact BK300.out) hb); have n4_ := Aside0.mk (below_step (by repeat (first | (with_reducible first | exact HB.out | apply below_alloc | apply pw_below_drewN | apply below_drew1 | refine below_set ?_ GE292.out | refine below_set ?_ GE300.out) | exact HB.out)) hb); clear HO_301002; clear BK292; clear BK300; clear HB; have HO_301002 := n0_; have HO306 := n1_; have BK292 := n2_; have BK300 := n3_; have HB := n4_; clear n0_ n1_ n2_ n3_ n4_; (try clear hb); (try clear hb2); (try clear hk); (try clear hi); (try clear ho0)) | ((with_reducible refine gate_dst (N := 6) rfl ?_); refine box_event ?hg (N := 6) ?hd (cs := #[.string (⟨#[]⟩ : ByteArray), .string (⟨#[]⟩ : ByteArray), .slice none 0 0]) (t := 24) ?hr ?_; (case hd => rfl); (case hg => rfl); (case hr => first | (go_simp; done) | (go_simp; rfl)); intro gb308 hg w26 hbox hb; have n0_ := Aside0.mk (Kd.R_below (by (with_reducible repeat (first | apply Kd.R_alloc | apply Kd.R_drewN | apply Kd.R_drew)); exact HO_301002.out) hb); have n1_ := Aside0.mk (Kd.R_below (by (with_reducible repeat (first | apply Kd.R_alloc | apply Kd.R_drewN | apply Kd.R_drew)); exact HO306.out) hb); have n2_ := Aside0.mk (blk_below (g := gb292) (o := .cells #[.string a0_0, .string a0_1, .slice A0_2 l0_2.length c0_2] 24 (0, 0)) (by (with_reducible repeat (first | refine blk_drewN ?_ _ | refine blk_drew ?_ | refine blk_alloc ?_ _)); exact BK292.out) hb); have n3_ := Aside0.mk (blk_below (g := gb300) (o := .cells #[.string t294, .string t295, .slice Ao12 t296.length co12] 24 (0, 0)) (by (with_reducible repeat (first | refine blk_drewN ?_ _ | refine blk_drew ?_ | refine blk_alloc ?_ _)); exact BK300.out) hb); have n4_ := Aside0.mk (below_step (by repeat (first | (with_reducible first | exact HB.out | apply below_alloc | apply pw_below_drewN | apply below_drew1 | refine below_set ?_ GE292.out | refine below_set ?_ GE300.out) | exact HB.out)) hb); have n5_ := Aside0.mk (hbox); have n6_ := Aside0.mk ((by rw [hg]; exact (below_size (by repeat (first | (with_reducible first | exact HB.out | apply below_alloc | apply pw_below_drewN | apply below_drew1 | refine below_set ?_ GE292.out | refine below_set ?_ GE300.out) | exact HB.out))) : w.heap.size ≤ gb308)); have n7_ := Aside0.mk ((by rw [hg]; exact (below_size (by repeat (first | (with_reducible first | exact HB.out | apply below_alloc | apply pw_below_drewN | apply below_drew1 | refine below_set ?_ GE292.out | refine below_set ?_ GE300.out) | exact HB.out))) : w.heap.size ≤ gb308)); have n8_ := Aside0.mk ((by rw [hg]; exact Nat.ne_of_lt (blk_lt (g := gb292) (o := .cells #[.string a0_0, .string a0_1, .slice A0_2 l0_2.length c0_2] 24 (0, 0)) (by (with_reducible repeat (first | refine blk_drewN ?_ _ | refine blk_drew ?_ | refine blk_alloc ?_ _)); exact BK292.out)) : gb292 ≠ gb308)); have n9_ := Aside0.mk ((by rw [hg]; exact Nat.ne_of_gt (blk_lt (g := gb292) (o := .cells #[.string a0_0, .string a0_1, .slice A0_2 l0_2.length c0_2] 24 (0, 0)) (by (with_reducible repeat (first | refine blk_drewN ?_ _ | refine blk_drew ?_ | refine blk_alloc ?_ _)); exact BK292.out)) : gb308 ≠ gb292)); have n10_ := Aside0.mk ((by rw [hg]; exact Nat.ne_of_lt (blk_lt (g := gb300) (o := .cells #[.string t294, .string t295, .slice Ao12 t296.length co12] 24 (0, 0)) (by (with_reducible repeat (first | refine blk_drewN ?_ _ | refine blk_drew ?_ | refine blk_alloc ?_ _)); exact BK300.out)) : gb300 ≠ gb308)); have n11_ := Aside0.mk ((by rw [hg]; exact Nat.ne_of_gt (blk_lt (g := gb300) (o := .cells #[.string t294, .string t295, .slice Ao12 t296.length co12] 24 (0, 0)) (by (with_reducible repeat (first | refine blk_drewN ?_ _ | refine blk_drew ?_ | refine blk_alloc ?_ _)); exact BK300.out)) : gb308 ≠ gb300)); clear HO_301002; clear HO306; clear BK292; clear BK300; clear HB; have HO_301002 := n0_; have HO306 := n1_; have BK292 := n2_; have BK300 := n3_; have HB := n4_; have BK308 := n5_; have GW308 := n6_; have GE308 := n7_; have NB292_308 := n8_; have NB308_292 := n9_; have NB300_308 := n10_; have NB308_300 := n11_; clear n0_ n1_ n2_ n3_ n4_ n5_ n6_ n7_ n8_ n9_ n10_ n11_; clear hb hbox hg; have hnb27 := NB308_292.out; have hnc27 := NB292_308.out; have hnb28 := NB308_300.out; have hnc28 := NB300_308.out; have hcz29_0 : w26.cell? ⟨gb308, 0, none⟩ = some (.string (⟨#[]⟩ : ByteArray)) := (blk_cell BK308.out 0).trans rfl; have hcz29_1 : w26.cell? ⟨gb308, 1, none⟩ = some (.string (⟨#[]⟩ : ByteArray)) := (blk_cell BK308.out 1).trans rfl; have hcz29_2 : w26.cell? ⟨gb308, 2, none⟩ = some (.slice none 0 0) := (blk_cell BK308.out 2).trans rfl; have hfz29_0 := blk_frozen BK308.out 0; have hfz29_1 := blk_frozen BK308.out 1; have hfz29_2 := blk_frozen BK308.out 2; obtain ⟨Ao30, co30, eo30⟩ := Kd.R_slice HO306.out; subst eo30; have hcz31_0 : w26.cell? ⟨gb300, 0, none⟩ = some (.string t294) := (blk_cell BK300.out 0).trans rfl; have hcz31_1 : w26.cell? ⟨gb300, 1, none⟩ = some (.string t295) := (blk_cell BK300.out 1).trans rfl; have hcz31_2 : w26.cell? ⟨gb300, 2, none⟩ = some (.slice Ao12 t296.length co12) := (blk_cell BK300.out 2).trans rfl; have hfz31_0 := blk_frozen BK300.out 0; have hfz31_1 := blk_frozen BK300.out 1; have hfz31_2 := blk_frozen BK300.out 2) | ((with_reducible refine gate_callee (f := 10) rfl ?_); refine goesL_ (some 39) rfl rfl Tryd.func10 (by kernel_rfl) rfl #[.agg #[.string t294, .string t295, .slice Ao12 t296.length co12], .agg #[.string t302, .string t303, .slice Ao30 t304.length co30]] rfl (by (try simp only [List.map_toArray, List.map_cons, List.map_nil]); first | done | rfl | (simp only [List.length_drop, List.length_take]; rfl)) ?_; (with_reducible refine (majordomoref06_Same.calls kj3 t294 t295 _ _ t296 t302 t303 _ _ t304 t309 _ ?side1 ?side2 ?side3 ?side4 A21.out).mono ?_); (case side1 => refine (Kd.R_reads' (e := 34) (base := w.heap.size) (ok := fun k_ => (True ∧ some k_ ≠ (.slice Ao30 t304.length co30 : Value).ownBlock)) (n := t296.length) (c := co12) ?_).2.2; exact (by (with_reducible repeat (first | apply Kd.R_alloc | apply Kd.R_drewN | apply Kd.R_drew)); exact (Kd.R_mono (Kd.R_far (p := ⟨gb308, 2, none⟩) (Kd.R_far (p := ⟨gb308, 1, none⟩) (Kd.R_far (p := ⟨gb308, 0, none⟩) (Kd.R_types HO_301002.out BK308.out (by decide)) (fun _ hk => hk.2) (.string t302)) (fun _ hk => hk.2) (.string t303)) (fun _ hk => hk.2) (.slice Ao30 t304.length co30)) (fun _ h_ => h_.1)))); (case side2 => exact (Kd.R_reads' HO_301002.out).2.1); (case side3 => refine (Kd.R_reads' (e := 34) (base := w.heap.size) (ok := fun k_ => (True ∧ some k_ ≠ (.slice Ao12 t296.length co12 : Value).ownBlock)) (n := t304.length) (c := co30) ?_).2.2; exact (by (with_reducible repeat (first | apply Kd.R_alloc | apply Kd.R_drewN | apply Kd.R_drew)); exact (Kd.R_mono (Kd.R_far (p := ⟨gb308, 2, none⟩) (Kd.R_far (p := ⟨gb308, 1, none⟩) (Kd.R_far (p := ⟨gb308, 0, none⟩) (Kd.R_types HO306.out BK308.out (by decide)) (fun _ hk => hk.2) (.string t302)) (fun _ hk => hk.2) (.string t303)) (fun _ hk => hk.2) (.slice Ao30 t304.length co30)) (fun _ h_ => h_.1)))); (case side4 => exact (Kd.R_reads' HO306.out).2.1); rintro e w32 ⟨rfl, hb⟩; refine ⟨_, rfl, ?_⟩; have n0_ := Aside0.mk (Kd.R_below (by (with_reducible repeat (first | apply Kd.R_alloc | apply Kd.R_drewN | apply Kd.R_drew)); exact (Kd.R_mono (Kd.R_far (p := ⟨gb308, 2, none⟩) (Kd.R_far (p := ⟨gb308, 1, none⟩) (Kd.R_far (p := ⟨gb308, 0, none⟩) (Kd.R_types HO_301002.out BK308.out (by decide)) (fun _ hk => hk.2) (.string t302)) (fun _ hk => hk.2) (.string t303)) (fun _ hk => hk.2) (.slice Ao30 t304.length co30)) (fun _ h_ => h_.1))) hb); have n1_ := Aside0.mk (Kd.R_below (by (with_reducible repeat (first | apply Kd.R_alloc | apply Kd.R_drewN | apply Kd.R_drew)); exact (Kd.R_mono (Kd.R_far (p := ⟨gb308, 2, none⟩) (Kd.R_far (p := ⟨gb308, 1, none⟩) (Kd.R_far (p := ⟨gb308, 0, none⟩) (Kd.R_types HO306.out BK308.out (by decide)) (fun _ hk => hk.2) (.string t302)) (fun _ hk => hk.2) (.string t303)) (fun _ hk => hk.2) (.slice Ao30 t304.length co30)) (fun _ h_ => h_.1))) hb); have n2_ := Aside0.mk (blk_below (g := gb292) (o := .cells #[.string a0_0, .string a0_1, .slice A0_2 l0_2.length c0_2] 24 (0, 0)) (by (with_reducible repeat (first | refine blk_drewN ?_ _ | refine blk_drew ?_ | refine blk_alloc ?_ _)); refine blk_far ?_ NB292_308.out _; (with_reducible repeat (first | refine blk_drewN ?_ _ | refine blk_drew ?_ | refine blk_alloc ?_ _)); refine blk_far ?_ NB292_308.out _; (with_reducible repeat (first | refine blk_drewN ?_ _ | refine blk_drew ?_ | refine blk_alloc ?_ _)); refine blk_far ?_ NB292_308.out _; (with_reducible repeat (first | refine blk_drewN ?_ _ | refine blk_drew ?_ | refine blk_alloc ?_ _)); exact BK292.out) hb); have n3_ := Aside0.mk (blk_below (g := gb300) (o := .cells #[.string t294, .string t295, .slice Ao12 t296.length co12] 24 (0, 0)) (by (with_reducible repeat (first | refine blk_drewN ?_ _ | refine blk_drew ?_ | refine blk_alloc ?_ _)); refine blk_far ?_ NB300_308.out _; (with_reducible repeat (first | refine blk_drewN ?_ _ | refine blk_drew ?_ | refine blk_alloc ?_ _)); refine blk_far ?_ NB300_308.out _; (with_reducible repeat (first | refine blk_drewN ?_ _ | refine blk_drew ?_ | refine blk_alloc ?_ _)); refine blk_far ?_ NB300_308.out _; (with_reducible repeat (first | refine blk_drewN ?_ _ | refine blk_drew ?_ | refine blk_alloc ?_ _)); exact BK300.out) hb); have n4_ := Aside0.mk (blk_below (g := gb308) (o := .cells #[.string t302, .string t303, .slice Ao30 t304.length co30] 24 (0, 0)) (by (with_reducible repeat (first | refine blk_drewN ?_ _ | refine blk_drew ?_ | refine blk_alloc ?_ _)); refine blk_put (cs := #[.string t302, .string t303, .slice none 0 0]) ?_ 2 _ rfl; (with_reducible repeat (first | refine blk_drewN ?_ _ | refine blk_drew ?_ | refine blk_alloc ?_ _)); refine blk_put (cs := #[.string t302, .string (⟨#[]⟩ : ByteArray), .slice none 0 0]) ?_ 1 _ rfl; (with_reducible repeat (first | refine blk_drewN ?_ _ | refine blk_drew ?_ | refine blk_alloc ?_ _)); refine blk_put (cs := #[.string (⟨#[]⟩ : ByteArray), .string (⟨#[]⟩ : ByteArray), .slice none 0 0]) ?_ 0 _ rfl; (with_reducible repeat (first | refine blk_drewN ?_ _ | refine blk_drew ?_ | refine blk_alloc ?_ _)); exact BK308.out) hb); have n5_ := Aside0.mk (below_step (by repeat (first | (with_reducible first | exact HB.out | apply below_alloc | apply pw_below_drewN | apply below_drew1 | refine below_set ?_ GE292.out | refine below_set ?_ GE300.out | refine below_set ?_ GE308.out) | exact HB.out)) hb); clear HO_301002; clear HO306; clear BK292; clear BK300; clear BK308; clear HB; have HO_301002 := n0_; have HO306 := n1_; have BK292 := n2_; have BK300 := n3_; have BK308 := n4_; have HB := n5_; clear n0_ n1_ n2_ n3_ n4_ n5_; (try clear hb); (try clear hb2); (try clear hk); (try clear hi)))
        (try simp only [Act.put, List.setIfInBounds_toArray, List.set_cons_zero, List.set_cons_succ])
        go_cut [59] (fun v59 wc => ∃ (kq : Nat) (x59_21 : Bool), v59 = .bool x59_21 ∧ Aside0 (majordomolaw06_ResourceFull.j1 kq x59_21 a0_0 a0_1 l0_2 t294 t295 t296 = some r) ∧ Aside0 (kq ≤ kj3) ∧ Aside0 (Kd.R k34 34 wc w.heap.size (fun k_ => some k_ ≠ ((.slice Ao30 t304.length co30) : Value).ownBlock) (.slice Ao12 t296.length co12) t296) ∧ Aside0 (Kd.R k34 34 wc w.heap.size (fun k_ => some k_ ≠ ((.slice Ao12 t296.length co12) : Value).ownBlock) (.slice Ao30 t304.length co30) t304) ∧ Aside0 (wc.heap[gb292]? = some (.cells #[.string a0_0, .string a0_1, (.slice A0_2 l0_2.length c0_2)] 24 (0, 0))) ∧ Aside0 (wc.heap[gb300]? = some (.cells #[.string t294, .string t295, (.slice Ao12 t296.length co12)] 24 (0, 0))) ∧ Aside0 (wc.heap[gb308]? = some (.cells #[.string t302, .string t303, (.slice Ao30 t304.length co30)] 24 (0, 0))) ∧ Aside0 (Below w.heap.size w wc))
        case first =>
          have H := HC22.out
          clear HC22
          by_cases c33 : t307 = 0
          · rw [if_pos c33] at H
            have c33b0 : (t307 == 0) = true := beq_iff_eq.mpr c33
            have c33b1 : (t307 != 0) = false := bne_eq_false_iff_eq.mpr c33
            clear c33
            (first | rw [c33b0] | (simp only [i64_w, i32_w]; rw [c33b0]) | skip)
            by_cases c34 : t309 = true
            · subst c34
              have H1 : (if t294.toList = a0_0.toList then (majordomolaw06_ResourceFull.j1 kj3 (t295.toList != a0_1.toList) a0_0 a0_1 l0_2 t294 t295 t296) else (majordomolaw06_ResourceFull.j1 kj3 true a0_0 a0_1 l0_2 t294 t295 t296)) = some r := by rw [if_pos rfl] at H; exact H
              clear H
              have H := H1
              clear H1
              by_cases c35 : t294.toList = a0_0.toList
              · rw [if_pos c35] at H
                have c35b0 : (t294.toList == a0_0.toList) = true := beq_iff_eq.mpr c35
                have c35b1 : (t294.toList != a0_0.toList) = false := bne_eq_false_iff_eq.mpr c35
                clear c35
                have H' := Aside0.mk H
                clear H
                have hnb36 := NB300_292.out
                have hnc36 := NB292_300.out
                have hnb37 := NB300_308.out
                have hnc37 := NB308_300.out
                have hcz38_0 : w32.cell? ⟨gb300, 0, none⟩ = some (.string t294) := (blk_cell BK300.out 0).trans rfl
                have hcz38_1 : w32.cell? ⟨gb300, 1, none⟩ = some (.string t295) := (blk_cell BK300.out 1).trans rfl
                have hcz38_2 : w32.cell? ⟨gb300, 2, none⟩ = some (.slice Ao12 t296.length co12) := (blk_cell BK300.out 2).trans rfl
                have hfz38_0 := blk_frozen BK300.out 0
                have hfz38_1 := blk_frozen BK300.out 1
                have hfz38_2 := blk_frozen BK300.out 2
                have hnb39 := NB292_308.out
                have hnc39 := NB308_292.out
                have hcz40_0 : w32.cell? ⟨gb292, 0, none⟩ = some (.string a0_0) := (blk_cell BK292.out 0).trans rfl
                have hcz40_1 : w32.cell? ⟨gb292, 1, none⟩ = some (.string a0_1) := (blk_cell BK292.out 1).trans rfl
                have hcz40_2 : w32.cell? ⟨gb292, 2, none⟩ = some (.slice A0_2 l0_2.length c0_2) := (blk_cell BK292.out 2).trans rfl
                have hfz40_0 := blk_frozen BK292.out 0
                have hfz40_1 := blk_frozen BK292.out 1
                have hfz40_2 := blk_frozen BK292.out 2
                go_wp2
                go_meet
                case rel => exact ⟨_, ((t295.toList != a0_1.toList)), (by first | rfl | (simp; done) | (simp [*]; done)), H', ⟨by have := HJ3.out; first | omega | exact Nat.le_refl _⟩, ⟨by (with_reducible repeat (first | apply Kd.R_alloc | apply Kd.R_drewN | apply Kd.R_drew)); exact Kd.R_mono HO_301002.out (fun _ hk => hk.2)⟩, ⟨by (with_reducible repeat (first | apply Kd.R_alloc | apply Kd.R_drewN | apply Kd.R_drew)); exact Kd.R_mono HO306.out (fun _ hk => hk.2)⟩, ⟨by (with_reducible repeat (first | refine blk_drewN ?_ _ | refine blk_drew ?_ | refine blk_alloc ?_ _)); exact BK292.out⟩, ⟨by (with_reducible repeat (first | refine blk_drewN ?_ _ | refine blk_drew ?_ | refine blk_alloc ?_ _)); exact BK300.out⟩, ⟨by (with_reducible repeat (first | refine blk_drewN ?_ _ | refine blk_drew ?_ | refine blk_alloc ?_ _)); exact BK308.out⟩, ⟨by repeat (first | (with_reducible first | exact HB.out | apply below_alloc | apply pw_below_drewN | apply below_drew1 | refine below_set ?_ GE292.out | refine below_set ?_ GE300.out | refine below_set ?_ GE308.out) | exact HB.out)⟩⟩
              · rw [if_neg c35] at H
                have c35b0 : (t294.toList == a0_0.toList) = false := beq_eq_false_iff_ne.mpr c35
                have c35b1 : (t294.toList != a0_0.toList) = true := bne_iff_ne.mpr c35
                have H' := Aside0.mk H
                clear H
                have hnb41 := NB300_292.out
                have hnc41 := NB292_300.out
                have hnb42 := NB300_308.out
                have hnc42 := NB308_300.out
                have hcz43_0 : w32.cell? ⟨gb300, 0, none⟩ = some (.string t294) := (blk_cell BK300.out 0).trans rfl
                have hcz43_1 : w32.cell? ⟨gb300, 1, none⟩ = some (.string t295) := (blk_cell BK300.out 1).trans rfl
                have hcz43_2 : w32.cell? ⟨gb300, 2, none⟩ = some (.slice Ao12 t296.length co12) := (blk_cell BK300.out 2).trans rfl
                have hfz43_0 := blk_frozen BK300.out 0
                have hfz43_1 := blk_frozen BK300.out 1
                have hfz43_2 := blk_frozen BK300.out 2
                have hnb44 := NB292_308.out
                have hnc44 := NB308_292.out
                have hcz45_0 : w32.cell? ⟨gb292, 0, none⟩ = some (.string a0_0) := (blk_cell BK292.out 0).trans rfl
                have hcz45_1 : w32.cell? ⟨gb292, 1, none⟩ = some (.string a0_1) := (blk_cell BK292.out 1).trans rfl
                have hcz45_2 : w32.cell? ⟨gb292, 2, none⟩ = some (.slice A0_2 l0_2.length c0_2) := (blk_cell BK292.out 2).trans rfl
                have hfz45_0 := blk_frozen BK292.out 0
                have hfz45_1 := blk_frozen BK292.out 1
                have hfz45_2 := blk_frozen BK292.out 2
                go_wp2
                go_meet
                case rel => exact ⟨_, (true), (by first | rfl | (simp; done) | (simp [*]; done)), H', ⟨by have := HJ3.out; first | omega | exact Nat.le_refl _⟩, ⟨by (with_reducible repeat (first | apply Kd.R_alloc | apply Kd.R_drewN | apply Kd.R_drew)); exact Kd.R_mono HO_301002.out (fun _ hk => hk.2)⟩, ⟨by (with_reducible repeat (first | apply Kd.R_alloc | apply Kd.R_drewN | apply Kd.R_drew)); exact Kd.R_mono HO306.out (fun _ hk => hk.2)⟩, ⟨by (with_reducible repeat (first | refine blk_drewN ?_ _ | refine blk_drew ?_ | refine blk_alloc ?_ _)); exact BK292.out⟩, ⟨by (with_reducible repeat (first | refine blk_drewN ?_ _ | refine blk_drew ?_ | refine blk_alloc ?_ _)); exact BK300.out⟩, ⟨by (with_reducible repeat (first | refine blk_drewN ?_ _ | refine blk_drew ?_ | refine blk_alloc ?_ _)); exact BK308.out⟩, ⟨by repeat (first | (with_reducible first | exact HB.out | apply below_alloc | apply pw_below_drewN | apply below_drew1 | refine below_set ?_ GE292.out | refine below_set ?_ GE300.out | refine below_set ?_ GE308.out) | exact HB.out)⟩⟩
            · replace c34 := Bool.eq_false_iff.mpr c34
              subst c34
              have H1 : (majordomolaw06_ResourceFull.j1 kj3 true a0_0 a0_1 l0_2 t294 t295 t296) = some r := by rw [if_neg (show ¬ (false = true) by decide)] at H; exact H
              clear H
              have H := H1
              clear H1
              have H' := Aside0.mk H
              clear H
              go_wp2
              go_meet
              case rel => exact ⟨_, (true), (by first | rfl | (simp; done) | (simp [*]; done)), H', ⟨by have := HJ3.out; first | omega | exact Nat.le_refl _⟩, ⟨by (with_reducible repeat (first | apply Kd.R_alloc | apply Kd.R_drewN | apply Kd.R_drew)); exact Kd.R_mono HO_301002.out (fun _ hk => hk.2)⟩, ⟨by (with_reducible repeat (first | apply Kd.R_alloc | apply Kd.R_drewN | apply Kd.R_drew)); exact Kd.R_mono HO306.out (fun _ hk => hk.2)⟩, ⟨by (with_reducible repeat (first | refine blk_drewN ?_ _ | refine blk_drew ?_ | refine blk_alloc ?_ _)); exact BK292.out⟩, ⟨by (with_reducible repeat (first | refine blk_drewN ?_ _ | refine blk_drew ?_ | refine blk_alloc ?_ _)); exact BK300.out⟩, ⟨by (with_reducible repeat (first | refine blk_drewN ?_ _ | refine blk_drew ?_ | refine blk_alloc ?_ _)); exact BK308.out⟩, ⟨by repeat (first | (with_reducible first | exact HB.out | apply below_alloc | apply pw_below_drewN | apply below_drew1 | refine below_set ?_ GE292.out | refine below_set ?_ GE300.out | refine below_set ?_ GE308.out) | exact HB.out)⟩⟩
          · rw [if_neg c33] at H
            have c33b0 : (t307 == 0) = false := beq_eq_false_iff_ne.mpr c33
            have c33b1 : (t307 != 0) = true := bne_iff_ne.mpr c33
            (first | rw [c33b0] | (simp only [i64_w, i32_w]; rw [c33b0]) | skip)
            have H' := Aside0.mk H
            clear H
            go_wp2
            go_meet
            case rel => exact ⟨_, (true), (by first | rfl | (simp; done) | (simp [*]; done)), H', ⟨by have := HJ3.out; first | omega | exact Nat.le_refl _⟩, ⟨by (with_reducible repeat (first | apply Kd.R_alloc | apply Kd.R_drewN | apply Kd.R_drew)); exact Kd.R_mono HO_301002.out (fun _ hk => hk.2)⟩, ⟨by (with_reducible repeat (first | apply Kd.R_alloc | apply Kd.R_drewN | apply Kd.R_drew)); exact Kd.R_mono HO306.out (fun _ hk => hk.2)⟩, ⟨by (with_reducible repeat (first | refine blk_drewN ?_ _ | refine blk_drew ?_ | refine blk_alloc ?_ _)); exact BK292.out⟩, ⟨by (with_reducible repeat (first | refine blk_drewN ?_ _ | refine blk_drew ?_ | refine blk_alloc ?_ _)); exact BK300.out⟩, ⟨by (with_reducible repeat (first | refine blk_drewN ?_ _ | refine blk_drew ?_ | refine blk_alloc ?_ _)); exact BK308.out⟩, ⟨by repeat (first | (with_reducible first | exact HB.out | apply below_alloc | apply pw_below_drewN | apply below_drew1 | refine below_set ?_ GE292.out | refine below_set ?_ GE300.out | refine below_set ?_ GE308.out) | exact HB.out)⟩⟩
        case rest =>
          clear HC22
          try clear c1
          try clear c2
          try clear p2
          try clear c3
          try clear c4
          try clear c7
          try clear c8
          try clear c10
          try clear c13
          try clear c14
          try clear c15
          try clear c17
          try clear c23
          try clear c27
          try clear c28
          try clear c33
          try clear c33b0
          try clear c33b1
          try clear c34
          try clear c35
          try clear c35b0
          try clear c35b1
          try clear c36
          try clear c37
          try clear c39
          try clear c41
          try clear c42
          try clear c44
          try clear hcz11_0
          try clear hcz11_1
          try clear hcz11_2
          try clear hcz18_0
          try clear hcz18_1
          try clear hcz18_2
          try clear hcz24_0
          try clear hcz24_1
          try clear hcz24_2
          try clear hcz29_0
          try clear hcz29_1
          try clear hcz29_2
          try clear hcz31_0
          try clear hcz31_1
          try clear hcz31_2
          try clear hcz38_0
          try clear hcz38_1
          try clear hcz38_2
          try clear hcz40_0
          try clear hcz40_1
          try clear hcz40_2
          try clear hcz43_0
          try clear hcz43_1
          try clear hcz43_2
          try clear hcz45_0
          try clear hcz45_1
          try clear hcz45_2
          try clear hcz7_0
          try clear hcz7_1
          try clear hcz7_2
          try clear hfz11_0
          try clear hfz11_1
          try clear hfz11_2
          try clear hfz18_0
          try clear hfz18_1
          try clear hfz18_2
          try clear hfz24_0
          try clear hfz24_1
          try clear hfz24_2
          try clear hfz29_0
          try clear hfz29_1
          try clear hfz29_2
          try clear hfz31_0
          try clear hfz31_1
          try clear hfz31_2
          try clear hfz38_0
          try clear hfz38_1
          try clear hfz38_2
          try clear hfz40_0
          try clear hfz40_1
          try clear hfz40_2
          try clear hfz43_0
          try clear hfz43_1
          try clear hfz43_2
          try clear hfz45_0
          try clear hfz45_1
          try clear hfz45_2
          try clear hfz7_0
          try clear hfz7_1
          try clear hfz7_2
          try clear p2
          obtain ⟨kq, x59_21, rfl, HA, HJ21, HO_301002, HO_309002, BK292, BK300, BK308, HB⟩ := hcut
          cases kq with
          | zero => exact absurd HA.out (by simp [majordomolaw06_ResourceFull.j1])
          | succ kj21 =>
            have H := HA.out
            clear HA
            simp only [majordomolaw06_ResourceFull.j1] at H
            by_cases c46 : x59_21 = true
            · subst c46
              have H1 : (some false) = some r := by rw [if_pos rfl] at H; exact H
              clear H
              have H := H1
              clear H1
              obtain rfl := Option.some.inj H
              go_wp2
              go_ret
              exact ⟨by first | rfl | (simp [errW_none, errW_some] <;> rfl) | (simp [*, errW_none, errW_some] <;> rfl), by repeat (first | (with_reducible first | exact HB.out | apply below_alloc | apply pw_below_drewN | apply below_drew1 | refine below_set ?_ GE292.out | refine below_set ?_ GE300.out | refine below_set ?_ GE308.out) | exact HB.out)⟩
            · replace c46 := Bool.eq_false_iff.mpr c46
              subst c46
              have H1 : (majordomolaw06_ResourceFull.l0 kj21 0 a0_0 a0_1 l0_2 t294 t295 t296) = some r := by rw [if_neg (show ¬ (false = true) by decide)] at H; exact H
              clear H
              have H := H1
              clear H1
              have H' := Aside0.mk H
              clear H
              go_wp2
              go_loopg [9] kj21 (fun kq v9 w' => ∃ (x9_3 : Int), v9 = .int .i64 x9_3 ∧ Aside0 (majordomolaw06_ResourceFull.l0 kq x9_3 a0_0 a0_1 l0_2 t294 t295 t296 = some r) ∧ Aside0 (kq ≤ kj21) ∧ Aside0 (Kd.R k34 34 w' w.heap.size (fun k_ => some k_ ≠ ((.slice Ao30 t304.length co30) : Value).ownBlock) (.slice Ao12 t296.length co12) t296) ∧ Aside0 (Kd.R k34 34 w' w.heap.size (fun k_ => some k_ ≠ ((.slice Ao12 t296.length co12) : Value).ownBlock) (.slice Ao30 t304.length co30) t304) ∧ Aside0 (w'.heap[gb292]? = some (.cells #[.string a0_0, .string a0_1, (.slice A0_2 l0_2.length c0_2)] 24 (0, 0))) ∧ Aside0 (w'.heap[gb300]? = some (.cells #[.string t294, .string t295, (.slice Ao12 t296.length co12)] 24 (0, 0))) ∧ Aside0 (w'.heap[gb308]? = some (.cells #[.string t302, .string t303, (.slice Ao30 t304.length co30)] 24 (0, 0))) ∧ Aside0 (Below w.heap.size w w'))
              case atStart => exact ⟨(0), (by first | rfl | (simp; done) | (simp [*]; done)), H', ⟨Nat.le_refl _⟩, ⟨by (with_reducible repeat (first | apply Kd.R_alloc | apply Kd.R_drewN | apply Kd.R_drew)); exact HO_301002.out⟩, ⟨by (with_reducible repeat (first | apply Kd.R_alloc | apply Kd.R_drewN | apply Kd.R_drew)); exact HO_309002.out⟩, ⟨by (with_reducible repeat (first | refine blk_drewN ?_ _ | refine blk_drew ?_ | refine blk_alloc ?_ _)); exact BK292.out⟩, ⟨by (with_reducible repeat (first | refine blk_drewN ?_ _ | refine blk_drew ?_ | refine blk_alloc ?_ _)); exact BK300.out⟩, ⟨by (with_reducible repeat (first | refine blk_drewN ?_ _ | refine blk_drew ?_ | refine blk_alloc ?_ _)); exact BK308.out⟩, ⟨by repeat (first | (with_reducible first | exact HB.out | apply below_alloc | apply pw_below_drewN | apply below_drew1 | refine below_set ?_ GE292.out | refine below_set ?_ GE300.out | refine below_set ?_ GE308.out) | exact HB.out)⟩⟩
              case round =>
                clear H'
                try clear c1
                try clear c2
                try clear p2
                try clear c3
                try clear c4
                try clear c7
                try clear c8
                try clear c10
                try clear c13
                try clear c14
                try clear c15
                try clear c17
                try clear c23
                try clear c27
                try clear c28
                try clear c33
                try clear c33b0
                try clear c33b1
                try clear c34
                try clear c35
                try clear c35b0
                try clear c35b1
                try clear c36
                try clear c37
                try clear c39
                try clear c41
                try clear c42
                try clear c44
                try clear c46
                try clear hcz11_0
                try clear hcz11_1
                try clear hcz11_2
                try clear hcz18_0
                try clear hcz18_1
                try clear hcz18_2
                try clear hcz24_0
                try clear hcz24_1
                try clear hcz24_2
                try clear hcz29_0
                try clear hcz29_1
                try clear hcz29_2
                try clear hcz31_0
                try clear hcz31_1
                try clear hcz31_2
                try clear hcz38_0
                try clear hcz38_1
                try clear hcz38_2
                try clear hcz40_0
                try clear hcz40_1
                try clear hcz40_2
                try clear hcz43_0
                try clear hcz43_1
                try clear hcz43_2
                try clear hcz45_0
                try clear hcz45_1
                try clear hcz45_2
                try clear hcz7_0
                try clear hcz7_1
                try clear hcz7_2
                try clear hfz11_0
                try clear hfz11_1
                try clear hfz11_2
                try clear hfz18_0
                try clear hfz18_1
                try clear hfz18_2
                try clear hfz24_0
                try clear hfz24_1
                try clear hfz24_2
                try clear hfz29_0
                try clear hfz29_1
                try clear hfz29_2
                try clear hfz31_0
                try clear hfz31_1
                try clear hfz31_2
                try clear hfz38_0
                try clear hfz38_1
                try clear hfz38_2
                try clear hfz40_0
                try clear hfz40_1
                try clear hfz40_2
                try clear hfz43_0
                try clear hfz43_1
                try clear hfz43_2
                try clear hfz45_0
                try clear hfz45_1
                try clear hfz45_2
                try clear hfz7_0
                try clear hfz7_1
                try clear hfz7_2
                try clear p2
                obtain ⟨x9_3, rfl, HA, HK3, HO_301002, HO_309002, BK292, BK300, BK308, HB⟩ := hrel
                cases gk with
                | zero => exact absurd HA.out (by simp [majordomolaw06_ResourceFull.l0])
                | succ k3 =>
                  have H := HA.out
                  clear HA
                  simp only [majordomolaw06_ResourceFull.l0] at H
                  by_cases c47 : x9_3 < (l0_2.length : Int)
                  · rw [if_pos c47] at H
                    have c47b0 : decide (x9_3 < (l0_2.length : Int)) = true := decide_eq_true c47
                    clear c47
                    by_cases c48 : 0 ≤ x9_3
                    · rw [if_pos c48] at H
                      have c48b0 : decide (0 ≤ x9_3) = true := decide_eq_true c48
                      clear c48
                      replace H := Option.bind_eq_some_iff.mp H
                      obtain ⟨⟨t311, t312⟩, A490, H⟩ := H
                      replace H : (if t312 = true then (if t311.toList = ((rd_T34 l0_2 x9_3).f1).toList then (majordomolaw06_ResourceFull.l0 k3 (wrap64 (x9_3 + 1)) a0_0 a0_1 l0_2 t294 t295 t296) else (some false)) else (some false)) = some r := H
                      have A49 := Aside0.mk A490
                      clear A490
                      by_cases c50 : t312 = true
                      · subst c50
                        have H1 : (if t311.toList = ((rd_T34 l0_2 x9_3).f1).toList then (majordomolaw06_ResourceFull.l0 k3 (wrap64 (x9_3 + 1)) a0_0 a0_1 l0_2 t294 t295 t296) else (some false)) = some r := by rw [if_pos rfl] at H; exact H
                        clear H
                        have H := H1
                        clear H1
                        by_cases c51 : t311.toList = ((rd_T34 l0_2 x9_3).f1).toList
                        · rw [if_pos c51] at H
                          have c51b0 : (t311.toList == ((rd_T34 l0_2 x9_3).f1).toList) = true := beq_iff_eq.mpr c51
                          have c51b1 : (t311.toList != ((rd_T34 l0_2 x9_3).f1).toList) = false := bne_eq_false_iff_eq.mpr c51
                          clear c51
                          have H' := Aside0.mk H
                          clear H
                          have hnb52 := NB292_300.out
                          have hnc52 := NB300_292.out
                          have hnb53 := NB292_308.out
                          have hnc53 := NB308_292.out
                          have hcz54_0 : wr.cell? ⟨gb292, 0, none⟩ = some (.string a0_0) := (blk_cell BK292.out 0).trans rfl
                          have hcz54_1 : wr.cell? ⟨gb292, 1, none⟩ = some (.string a0_1) := (blk_cell BK292.out 1).trans rfl
                          have hcz54_2 : wr.cell? ⟨gb292, 2, none⟩ = some (.slice A0_2 l0_2.length c0_2) := (blk_cell BK292.out 2).trans rfl
                          have hfz54_0 := blk_frozen BK292.out 0
                          have hfz54_1 := blk_frozen BK292.out 1
                          have hfz54_2 := blk_frozen BK292.out 2
                          try go_wp2
                          have n0_ := Aside0.mk (Kd.R_drew HO_301002.out)
                          have n1_ := Aside0.mk (Kd.R_drew HO_309002.out)
                          have n2_ := Aside0.mk (blk_drew BK292.out)
                          have n3_ := Aside0.mk (blk_drew BK300.out)
                          have n4_ := Aside0.mk (blk_drew BK308.out)
                          have n5_ := Aside0.mk (below_drew1 HB.out)
                          clear HO_301002
                          clear HO_309002
                          clear BK292
                          clear BK300
                          clear BK308
                          clear HB
                          have HO_301002 := n0_
                          have HO_309002 := n1_
                          have BK292 := n2_
                          have BK300 := n3_
                          have BK308 := n4_
                          have HB := n5_
                          clear n0_ n1_ n2_ n3_ n4_ n5_
                          have p310 : 0 ≤ (x9_3 : Int) := of_decide_eq_true (by first | (with_reducible assumption) | assumption)
                          have q310 : x9_3 < (l0_2.length : Int) := of_decide_eq_true (by first | (with_reducible assumption) | assumption)
                          obtain ⟨ad310, e310, hx310_0, hx310_1⟩ := at_T34 HR0_2.out x9_3 p310 q310
                          have hw310_1 := hx310_1
                          have hw310_0 := hx310_0
                          cases e310
                          replace hx310_0 := (HB.out.cell (World.block_lt_of_cell? w _ hx310_0)).trans hx310_0
                          replace hx310_1 := (HB.out.cell (World.block_lt_of_cell? w _ hx310_1)).trans hx310_1
                          replace p310 := eq_true p310
                          replace q310 := eq_true q310
                          refine start_ (n := 13) (S := fun w' => w'.cell? ⟨gb300, 0, none⟩ = some (.string t294) ∧ w'.cell? ⟨gb300, 1, none⟩ = some (.string t295) ∧ w'.cell? ⟨gb300, 2, none⟩ = some (.slice Ao12 t296.length co12) ∧ w'.cell? ⟨gb292, 0, none⟩ = some (.string a0_0) ∧ w'.cell? ⟨gb292, 1, none⟩ = some (.string a0_1) ∧ w'.cell? ⟨gb292, 2, none⟩ = some (.slice (some ad310) l0_2.length c0_2) ∧ w'.cell? (ad310.add ((x9_3).toNat * 2)) = some (.string ((rd_T34 l0_2 x9_3).f0)) ∧ w'.cell? ⟨(ad310.add ((x9_3).toNat * 2)).block, (ad310.add ((x9_3).toNat * 2)).off + 1, none⟩ = some (.string ((rd_T34 l0_2 x9_3).f1))) (ds := []) #[false, false, false, false, false, false, false, false, false, false, false, false, false] (by kernel_rfl) rfl rfl ⟨(blk_cell BK300.out 0).trans rfl, (blk_cell BK300.out 1).trans rfl, (blk_cell BK300.out 2).trans rfl, (blk_cell BK292.out 0).trans rfl, (blk_cell BK292.out 1).trans rfl, (blk_cell BK292.out 2).trans rfl, ((HB.out.cell (World.block_lt_of_cell? w _ hw310_0)).trans hw310_0), ((HB.out.cell (World.block_lt_of_cell? w _ hw310_1)).trans hw310_1)⟩ (fun hHeld => ?_); refine with_tabW majordomolaw06_ResourceFull.tab12 majordomolaw06_ResourceFull.bits12 (fun HT_ HW_ => ?_)
                          generalize wr.drew = w55 at HO_301002 HO_309002 BK292 BK300 BK308 HB hx310_0 hx310_1 hHeld ⊢
                          refine pure_ (i := 1) (N := some 69) (v := ?_) (a' := ?_) #[false, true, false, false, false, false, false, false, false, false, false, false, false] rfl rfl (any_of HT_.out (by kernel_rfl)) (fun _ _ _ h => h) (Or.inl ⟨by rfl, ?_⟩) ?_ ?_
                          rotate_left
                          · intro w'
                            go_simp
                            with_reducible rfl
                          rotate_left
                          · simp only [Act.put, List.setIfInBounds_toArray, List.set_cons_zero, List.set_cons_succ, i64_w, i32_w]
                            rfl
                          refine pure_ (i := 3) (N := some 71) (v := ?_) (a' := ?_) #[false, true, false, true, false, false, false, false, false, false, false, false, false] rfl rfl (any_of HT_.out (by kernel_rfl)) (fun _ _ _ h => h) (Or.inl ⟨by rfl, ?_⟩) ?_ ?_
                          rotate_left
                          · intro w'
                            go_simp
                            with_reducible rfl
                          rotate_left
                          · simp only [Act.put, List.setIfInBounds_toArray, List.set_cons_zero, List.set_cons_succ, i64_w, i32_w]
                            rfl
                          refine take_ (i := 0) (N := some 68) (v := ?_) (a' := ?_) #[true, true, false, true, false, false, false, false, false, false, false, false, false] rfl rfl (take_ofW HT_.out HW_.out (by kernel_rfl)) (fun _ _ _ h => h) (Or.inl ⟨by rfl, ?_⟩) hHeld ?_ ?_
                          rotate_left
                          · rintro w' ⟨s0, s1, s2, s3, s4, s5, s6, s7⟩
                            go_simp
                            with_reducible rfl
                          rotate_left
                          · simp only [Act.put, List.setIfInBounds_toArray, List.set_cons_zero, List.set_cons_succ, i64_w, i32_w]
                            rfl
                          refine take_ (i := 2) (N := some 70) (v := ?_) (a' := ?_) #[true, true, true, true, false, false, false, false, false, false, false, false, false] rfl rfl (take_ofW HT_.out HW_.out (by kernel_rfl)) (fun _ _ _ h => h) (Or.inl ⟨by rfl, ?_⟩) hHeld ?_ ?_
                          rotate_left
                          · rintro w' ⟨s0, s1, s2, s3, s4, s5, s6, s7⟩
                            go_simp
                            with_reducible rfl
                          rotate_left
                          · simp only [Act.put, List.setIfInBounds_toArray, List.set_cons_zero, List.set_cons_succ, i64_w, i32_w]
                            rfl
                          refine pure_ (i := 4) (N := some 72) (v := ?_) (a' := ?_) #[true, true, true, true, true, false, false, false, false, false, false, false, false] rfl rfl (any_of HT_.out (by kernel_rfl)) (fun _ _ _ h => h) (Or.inl ⟨by rfl, ?_⟩) ?_ ?_
                          rotate_left
                          · intro w'
                            go_simp
                            with_reducible rfl
                          rotate_left
                          · simp only [Act.put, List.setIfInBounds_toArray, List.set_cons_zero, List.set_cons_succ, i64_w, i32_w]
                            rfl
                          refine pure_ (i := 5) (N := some 73) (v := ?_) (a' := ?_) #[true, true, true, true, true, true, false, false, false, false, false, false, false] rfl rfl (any_of HT_.out (by kernel_rfl)) (fun _ _ _ h => h) (Or.inl ⟨by rfl, ?_⟩) ?_ ?_
                          rotate_left
                          · intro w'
                            go_simp
                            with_reducible rfl
                          rotate_left
                          · simp only [Act.put, List.setIfInBounds_toArray, List.set_cons_zero, List.set_cons_succ, i64_w, i32_w]
                            rfl
                          refine take_ (i := 6) (N := some 74) (v := ?_) (a' := ?_) #[true, true, true, true, true, true, true, false, false, false, false, false, false] rfl rfl (take_ofW HT_.out HW_.out (by kernel_rfl)) (fun _ _ _ h => h) (Or.inl ⟨by rfl, ?_⟩) hHeld ?_ ?_
                          rotate_left
                          · rintro w' ⟨s0, s1, s2, s3, s4, s5, s6, s7⟩
                            go_simp
                            with_reducible rfl
                          rotate_left
                          · simp only [Act.put, List.setIfInBounds_toArray, List.set_cons_zero, List.set_cons_succ, i64_w, i32_w]
                            rfl
                          refine one_ (i := 7) (N := some 75) #[true, true, true, true, true, true, true, true, false, false, false, false, false] rfl rfl (one_of HT_.out (by kernel_rfl)) (by decide) (fun K hK => ?_)
                          refine goes_ Tryd.func11 (by kernel_rfl) rfl #[.agg #[.string t294, .string t295, .slice Ao12 t296.length co12], .string ((rd_T34 l0_2 x9_3).f0)] (by rfl) rfl rfl (by (try simp only [List.map_toArray, List.map_cons, List.map_nil]); first | done | rfl | (simp only [List.length_drop, List.length_take]; rfl)) ?_
                          with_reducible refine (resource_Get.calls k3 t294 t295 _ _ t296 ((rd_T34 l0_2 x9_3).f0) t311 true _ ?side1 ?side2 A49.out).mono ?_
                          (case side1 => repeat (first | exact (Kd.R_reads' HO_301002.out).2.2 | (with_reducible refine Kd.C_alloc ?_ _) | (with_reducible refine Kd.C_drewN ?_ _) | (with_reducible refine Kd.C_drew ?_)))
                          (case side2 => exact (Kd.R_reads' HO_301002.out).2.1)
                          rintro e w56 ⟨rfl, hb⟩
                          refine ⟨_, rfl, ?_⟩
                          have n0_ := Aside0.mk (Kd.R_below (by (with_reducible repeat (first | apply Kd.R_alloc | apply Kd.R_drewN | apply Kd.R_drew)); exact HO_301002.out) hb)
                          have n1_ := Aside0.mk (Kd.R_below (by (with_reducible repeat (first | apply Kd.R_alloc | apply Kd.R_drewN | apply Kd.R_drew)); exact HO_309002.out) hb)
                          have n2_ := Aside0.mk (blk_below (g := gb292) (o := .cells #[.string a0_0, .string a0_1, .slice (some ad310) l0_2.length c0_2] 24 (0, 0)) (by (with_reducible repeat (first | refine blk_drewN ?_ _ | refine blk_drew ?_ | refine blk_alloc ?_ _)); exact BK292.out) hb)
                          have n3_ := Aside0.mk (blk_below (g := gb300) (o := .cells #[.string t294, .string t295, .slice Ao12 t296.length co12] 24 (0, 0)) (by (with_reducible repeat (first | refine blk_drewN ?_ _ | refine blk_drew ?_ | refine blk_alloc ?_ _)); exact BK300.out) hb)
                          have n4_ := Aside0.mk (blk_below (g := gb308) (o := .cells #[.string t302, .string t303, .slice Ao30 t304.length co30] 24 (0, 0)) (by (with_reducible repeat (first | refine blk_drewN ?_ _ | refine blk_drew ?_ | refine blk_alloc ?_ _)); exact BK308.out) hb)
                          have n5_ := Aside0.mk (below_step (by repeat (first | (with_reducible first | exact HB.out | apply below_alloc | apply pw_below_drewN | apply below_drew1 | refine below_set ?_ GE292.out | refine below_set ?_ GE300.out | refine below_set ?_ GE308.out) | exact HB.out)) hb)
                          clear HO_301002
                          clear HO_309002
                          clear BK292
                          clear BK300
                          clear BK308
                          clear HB
                          have HO_301002 := n0_
                          have HO_309002 := n1_
                          have BK292 := n2_
                          have BK300 := n3_
                          have BK308 := n4_
                          have HB := n5_
                          clear n0_ n1_ n2_ n3_ n4_ n5_
                          (try clear hb)
                          (try clear hb2)
                          (try clear hk)
                          (try clear hi)
                          refine hK.out _ _ ⟨(blk_cell BK300.out 0).trans rfl, (blk_cell BK300.out 1).trans rfl, (blk_cell BK300.out 2).trans rfl, (blk_cell BK292.out 0).trans rfl, (blk_cell BK292.out 1).trans rfl, (blk_cell BK292.out 2).trans rfl, ((HB.out.cell (World.block_lt_of_cell? w _ hw310_0)).trans hw310_0), ((HB.out.cell (World.block_lt_of_cell? w _ hw310_1)).trans hw310_1)⟩ (fun hHeld => ?_)
                          clear hK K
                          refine norm_ (a' := ?_) ?_ ?_
                          rotate_left
                          · show Act.put _ (some 75) _ = _
                            simp only [Act.put, List.setIfInBounds_toArray, List.set_cons_zero, List.set_cons_succ, i64_w, i32_w]
                            rfl
                          refine pure_ (i := 8) (N := some 67) (v := ?_) (a' := ?_) #[true, true, true, true, true, true, true, true, true, false, false, false, false] rfl rfl (any_of HT_.out (by kernel_rfl)) (fun _ _ _ h => h) (Or.inl ⟨by rfl, ?_⟩) ?_ ?_
                          rotate_left
                          · intro w'
                            go_simp
                            with_reducible rfl
                          rotate_left
                          · simp only [Act.put, List.setIfInBounds_toArray, List.set_cons_zero, List.set_cons_succ, i64_w, i32_w]
                            rfl
                          refine pure_ (i := 9) (N := some 76) (v := ?_) (a' := ?_) #[true, true, true, true, true, true, true, true, true, true, false, false, false] rfl rfl (any_of HT_.out (by kernel_rfl)) (fun _ _ _ h => h) (Or.inl ⟨by rfl, ?_⟩) ?_ ?_
                          rotate_left
                          · intro w'
                            go_simp
                            with_reducible rfl
                          rotate_left
                          · simp only [Act.put, List.setIfInBounds_toArray, List.set_cons_zero, List.set_cons_succ, i64_w, i32_w]
                            rfl
                          refine pure_ (i := 10) (N := some 77) (v := ?_) (a' := ?_) #[true, true, true, true, true, true, true, true, true, true, true, false, false] rfl rfl (any_of HT_.out (by kernel_rfl)) (fun _ _ _ h => h) (Or.inl ⟨by rfl, ?_⟩) ?_ ?_
                          rotate_left
                          · intro w'
                            go_simp
                            with_reducible rfl
                          rotate_left
                          · simp only [Act.put, List.setIfInBounds_toArray, List.set_cons_zero, List.set_cons_succ, i64_w, i32_w]
                            rfl
                          refine pure_ (i := 11) (N := some 10) (v := ?_) (a' := ?_) #[true, true, true, true, true, true, true, true, true, true, true, true, false] rfl rfl (any_of HT_.out (by kernel_rfl)) (fun _ _ _ h => h) (Or.inl ⟨by rfl, ?_⟩) ?_ ?_
                          rotate_left
                          · intro w'
                            go_simp
                            with_reducible rfl
                          rotate_left
                          · simp only [Act.put, List.setIfInBounds_toArray, List.set_cons_zero, List.set_cons_succ, i64_w, i32_w]
                            rfl
                          refine pure_ (i := 12) (N := some 11) (v := ?_) (a' := ?_) #[true, true, true, true, true, true, true, true, true, true, true, true, true] rfl rfl (any_of HT_.out (by kernel_rfl)) (fun _ _ _ h => h) (Or.inl ⟨by rfl, ?_⟩) ?_ ?_
                          rotate_left
                          · intro w'
                            go_simp
                            with_reducible rfl
                          rotate_left
                          · simp only [Act.put, List.setIfInBounds_toArray, List.set_cons_zero, List.set_cons_succ, i64_w, i32_w]
                            rfl
                          refine done_ (done_of HT_.out (by kernel_rfl)) ?_
                          have hcz57_0 : w56.cell? ⟨gb292, 0, none⟩ = some (.string a0_0) := (blk_cell BK292.out 0).trans rfl
                          have hcz57_1 : w56.cell? ⟨gb292, 1, none⟩ = some (.string a0_1) := (blk_cell BK292.out 1).trans rfl
                          have hcz57_2 : w56.cell? ⟨gb292, 2, none⟩ = some (.slice (some ad310) l0_2.length c0_2) := (blk_cell BK292.out 2).trans rfl
                          have hfz57_0 := blk_frozen BK292.out 0
                          have hfz57_1 := blk_frozen BK292.out 1
                          have hfz57_2 := blk_frozen BK292.out 2
                          have p313 : 0 ≤ (x9_3 : Int) := of_decide_eq_true (by first | (with_reducible assumption) | assumption)
                          have q313 : x9_3 < (l0_2.length : Int) := of_decide_eq_true (by first | (with_reducible assumption) | assumption)
                          obtain ⟨ad313, e313, hx313_0, hx313_1⟩ := at_T34 HR0_2.out x9_3 p313 q313
                          obtain rfl : ad310 = ad313 := (by injection e313)
                          replace hx313_0 := (HB.out.cell (World.block_lt_of_cell? w _ hx313_0)).trans hx313_0
                          replace hx313_1 := (HB.out.cell (World.block_lt_of_cell? w _ hx313_1)).trans hx313_1
                          replace p313 := eq_true p313
                          replace q313 := eq_true q313
                          try go_wp2
                          go_roundg k3
                          case measure => have := HJ3.out; have := HJ21.out; have := HK3.out; omega
                          case rel => exact ⟨(wrap64 (x9_3 + 1)), (by first | rfl | (simp; done) | (simp [*]; done)), H', ⟨by have := HJ3.out; have := HJ21.out; have := HK3.out; omega⟩, ⟨by (with_reducible repeat (first | apply Kd.R_alloc | apply Kd.R_drewN | apply Kd.R_drew)); exact HO_301002.out⟩, ⟨by (with_reducible repeat (first | apply Kd.R_alloc | apply Kd.R_drewN | apply Kd.R_drew)); exact HO_309002.out⟩, ⟨by (with_reducible repeat (first | refine blk_drewN ?_ _ | refine blk_drew ?_ | refine blk_alloc ?_ _)); exact BK292.out⟩, ⟨by (with_reducible repeat (first | refine blk_drewN ?_ _ | refine blk_drew ?_ | refine blk_alloc ?_ _)); exact BK300.out⟩, ⟨by (with_reducible repeat (first | refine blk_drewN ?_ _ | refine blk_drew ?_ | refine blk_alloc ?_ _)); exact BK308.out⟩, ⟨by repeat (first | (with_reducible first | exact HB.out | apply below_alloc | apply pw_below_drewN | apply below_drew1 | refine below_set ?_ GE292.out | refine below_set ?_ GE300.out | refine below_set ?_ GE308.out) | exact HB.out)⟩⟩
                        · rw [if_neg c51] at H
                          have c51b0 : (t311.toList == ((rd_T34 l0_2 x9_3).f1).toList) = false := beq_eq_false_iff_ne.mpr c51
                          have c51b1 : (t311.toList != ((rd_T34 l0_2 x9_3).f1).toList) = true := bne_iff_ne.mpr c51
                          obtain rfl := Option.some.inj H
                          have hnb58 := NB292_300.out
                          have hnc58 := NB300_292.out
                          have hnb59 := NB292_308.out
                          have hnc59 := NB308_292.out
                          have hcz60_0 : wr.cell? ⟨gb292, 0, none⟩ = some (.string a0_0) := (blk_cell BK292.out 0).trans rfl
                          have hcz60_1 : wr.cell? ⟨gb292, 1, none⟩ = some (.string a0_1) := (blk_cell BK292.out 1).trans rfl
                          have hcz60_2 : wr.cell? ⟨gb292, 2, none⟩ = some (.slice A0_2 l0_2.length c0_2) := (blk_cell BK292.out 2).trans rfl
                          have hfz60_0 := blk_frozen BK292.out 0
                          have hfz60_1 := blk_frozen BK292.out 1
                          have hfz60_2 := blk_frozen BK292.out 2
                          try go_wp2
                          have n0_ := Aside0.mk (Kd.R_drew HO_301002.out)
                          have n1_ := Aside0.mk (Kd.R_drew HO_309002.out)
                          have n2_ := Aside0.mk (blk_drew BK292.out)
                          have n3_ := Aside0.mk (blk_drew BK300.out)
                          have n4_ := Aside0.mk (blk_drew BK308.out)
                          have n5_ := Aside0.mk (below_drew1 HB.out)
                          clear HO_301002
                          clear HO_309002
                          clear BK292
                          clear BK300
                          clear BK308
                          clear HB
                          have HO_301002 := n0_
                          have HO_309002 := n1_
                          have BK292 := n2_
                          have BK300 := n3_
                          have BK308 := n4_
                          have HB := n5_
                          clear n0_ n1_ n2_ n3_ n4_ n5_
                          have p310 : 0 ≤ (x9_3 : Int) := of_decide_eq_true (by first | (with_reducible assumption) | assumption)
                          have q310 : x9_3 < (l0_2.length : Int) := of_decide_eq_true (by first | (with_reducible assumption) | assumption)
                          obtain ⟨ad310, e310, hx310_0, hx310_1⟩ := at_T34 HR0_2.out x9_3 p310 q310
                          have hw310_1 := hx310_1
                          have hw310_0 := hx310_0
                          cases e310
                          replace hx310_0 := (HB.out.cell (World.block_lt_of_cell? w _ hx310_0)).trans hx310_0
                          replace hx310_1 := (HB.out.cell (World.block_lt_of_cell? w _ hx310_1)).trans hx310_1
                          replace p310 := eq_true p310
                          replace q310 := eq_true q310
                          refine start_ (n := 13) (S := fun w' => w'.cell? ⟨gb300, 0, none⟩ = some (.string t294) ∧ w'.cell? ⟨gb300, 1, none⟩ = some (.string t295) ∧ w'.cell? ⟨gb300, 2, none⟩ = some (.slice Ao12 t296.length co12) ∧ w'.cell? ⟨gb292, 0, none⟩ = some (.string a0_0) ∧ w'.cell? ⟨gb292, 1, none⟩ = some (.string a0_1) ∧ w'.cell? ⟨gb292, 2, none⟩ = some (.slice (some ad310) l0_2.length c0_2) ∧ w'.cell? (ad310.add ((x9_3).toNat * 2)) = some (.string ((rd_T34 l0_2 x9_3).f0)) ∧ w'.cell? ⟨(ad310.add ((x9_3).toNat * 2)).block, (ad310.add ((x9_3).toNat * 2)).off + 1, none⟩ = some (.string ((rd_T34 l0_2 x9_3).f1))) (ds := []) #[false, false, false, false, false, false, false, false, false, false, false, false, false] (by kernel_rfl) rfl rfl ⟨(blk_cell BK300.out 0).trans rfl, (blk_cell BK300.out 1).trans rfl, (blk_cell BK300.out 2).trans rfl, (blk_cell BK292.out 0).trans rfl, (blk_cell BK292.out 1).trans rfl, (blk_cell BK292.out 2).trans rfl, ((HB.out.cell (World.block_lt_of_cell? w _ hw310_0)).trans hw310_0), ((HB.out.cell (World.block_lt_of_cell? w _ hw310_1)).trans hw310_1)⟩ (fun hHeld => ?_); refine with_tabW majordomolaw06_ResourceFull.tab12 majordomolaw06_ResourceFull.bits12 (fun HT_ HW_ => ?_)
                          generalize wr.drew = w61 at HO_301002 HO_309002 BK292 BK300 BK308 HB hx310_0 hx310_1 hHeld ⊢
                          refine pure_ (i := 1) (N := some 69) (v := ?_) (a' := ?_) #[false, true, false, false, false, false, false, false, false, false, false, false, false] rfl rfl (any_of HT_.out (by kernel_rfl)) (fun _ _ _ h => h) (Or.inl ⟨by rfl, ?_⟩) ?_ ?_
                          rotate_left
                          · intro w'
                            go_simp
                            with_reducible rfl
                          rotate_left
                          · simp only [Act.put, List.setIfInBounds_toArray, List.set_cons_zero, List.set_cons_succ, i64_w, i32_w]
                            rfl
                          refine pure_ (i := 3) (N := some 71) (v := ?_) (a' := ?_) #[false, true, false, true, false, false, false, false, false, false, false, false, false] rfl rfl (any_of HT_.out (by kernel_rfl)) (fun _ _ _ h => h) (Or.inl ⟨by rfl, ?_⟩) ?_ ?_
                          rotate_left
                          · intro w'
                            go_simp
                            with_reducible rfl
                          rotate_left
                          · simp only [Act.put, List.setIfInBounds_toArray, List.set_cons_zero, List.set_cons_succ, i64_w, i32_w]
                            rfl
                          refine take_ (i := 0) (N := some 68) (v := ?_) (a' := ?_) #[true, true, false, true, false, false, false, false, false, false, false, false, false] rfl rfl (take_ofW HT_.out HW_.out (by kernel_rfl)) (fun _ _ _ h => h) (Or.inl ⟨by rfl, ?_⟩) hHeld ?_ ?_
                          rotate_left
                          · rintro w' ⟨s0, s1, s2, s3, s4, s5, s6, s7⟩
                            go_simp
                            with_reducible rfl
                          rotate_left
                          · simp only [Act.put, List.setIfInBounds_toArray, List.set_cons_zero, List.set_cons_succ, i64_w, i32_w]
                            rfl
                          refine take_ (i := 2) (N := some 70) (v := ?_) (a' := ?_) #[true, true, true, true, false, false, false, false, false, false, false, false, false] rfl rfl (take_ofW HT_.out HW_.out (by kernel_rfl)) (fun _ _ _ h => h) (Or.inl ⟨by rfl, ?_⟩) hHeld ?_ ?_
                          rotate_left
                          · rintro w' ⟨s0, s1, s2, s3, s4, s5, s6, s7⟩
                            go_simp
                            with_reducible rfl
                          rotate_left
                          · simp only [Act.put, List.setIfInBounds_toArray, List.set_cons_zero, List.set_cons_succ, i64_w, i32_w]
                            rfl
                          refine pure_ (i := 4) (N := some 72) (v := ?_) (a' := ?_) #[true, true, true, true, true, false, false, false, false, false, false, false, false] rfl rfl (any_of HT_.out (by kernel_rfl)) (fun _ _ _ h => h) (Or.inl ⟨by rfl, ?_⟩) ?_ ?_
                          rotate_left
                          · intro w'
                            go_simp
                            with_reducible rfl
                          rotate_left
                          · simp only [Act.put, List.setIfInBounds_toArray, List.set_cons_zero, List.set_cons_succ, i64_w, i32_w]
                            rfl
                          refine pure_ (i := 5) (N := some 73) (v := ?_) (a' := ?_) #[true, true, true, true, true, true, false, false, false, false, false, false, false] rfl rfl (any_of HT_.out (by kernel_rfl)) (fun _ _ _ h => h) (Or.inl ⟨by rfl, ?_⟩) ?_ ?_
                          rotate_left
                          · intro w'
                            go_simp
                            with_reducible rfl
                          rotate_left
                          · simp only [Act.put, List.setIfInBounds_toArray, List.set_cons_zero, List.set_cons_succ, i64_w, i32_w]
                            rfl
                          refine take_ (i := 6) (N := some 74) (v := ?_) (a' := ?_) #[true, true, true, true, true, true, true, false, false, false, false, false, false] rfl rfl (take_ofW HT_.out HW_.out (by kernel_rfl)) (fun _ _ _ h => h) (Or.inl ⟨by rfl, ?_⟩) hHeld ?_ ?_
                          rotate_left
                          · rintro w' ⟨s0, s1, s2, s3, s4, s5, s6, s7⟩
                            go_simp
                            with_reducible rfl
                          rotate_left
                          · simp only [Act.put, List.setIfInBounds_toArray, List.set_cons_zero, List.set_cons_succ, i64_w, i32_w]
                            rfl
                          refine one_ (i := 7) (N := some 75) #[true, true, true, true, true, true, true, true, false, false, false, false, false] rfl rfl (one_of HT_.out (by kernel_rfl)) (by decide) (fun K hK => ?_)
                          refine goes_ Tryd.func11 (by kernel_rfl) rfl #[.agg #[.string t294, .string t295, .slice Ao12 t296.length co12], .string ((rd_T34 l0_2 x9_3).f0)] (by rfl) rfl rfl (by (try simp only [List.map_toArray, List.map_cons, List.map_nil]); first | done | rfl | (simp only [List.length_drop, List.length_take]; rfl)) ?_
                          with_reducible refine (resource_Get.calls k3 t294 t295 _ _ t296 ((rd_T34 l0_2 x9_3).f0) t311 true _ ?side1 ?side2 A49.out).mono ?_
                          (case side1 => repeat (first | exact (Kd.R_reads' HO_301002.out).2.2 | (with_reducible refine Kd.C_alloc ?_ _) | (with_reducible refine Kd.C_drewN ?_ _) | (with_reducible refine Kd.C_drew ?_)))
                          (case side2 => exact (Kd.R_reads' HO_301002.out).2.1)
                          rintro e w62 ⟨rfl, hb⟩
                          refine ⟨_, rfl, ?_⟩
                          have n0_ := Aside0.mk (Kd.R_below (by (with_reducible repeat (first | apply Kd.R_alloc | apply Kd.R_drewN | apply Kd.R_drew)); exact HO_301002.out) hb)
                          have n1_ := Aside0.mk (Kd.R_below (by (with_reducible repeat (first | apply Kd.R_alloc | apply Kd.R_drewN | apply Kd.R_drew)); exact HO_309002.out) hb)
                          have n2_ := Aside0.mk (blk_below (g := gb292) (o := .cells #[.string a0_0, .string a0_1, .slice (some ad310) l0_2.length c0_2] 24 (0, 0)) (by (with_reducible repeat (first | refine blk_drewN ?_ _ | refine blk_drew ?_ | refine blk_alloc ?_ _)); exact BK292.out) hb)
                          have n3_ := Aside0.mk (blk_below (g := gb300) (o := .cells #[.string t294, .string t295, .slice Ao12 t296.length co12] 24 (0, 0)) (by (with_reducible repeat (first | refine blk_drewN ?_ _ | refine blk_drew ?_ | refine blk_alloc ?_ _)); exact BK300.out) hb)
                          have n4_ := Aside0.mk (blk_below (g := gb308) (o := .cells #[.string t302, .string t303, .slice Ao30 t304.length co30] 24 (0, 0)) (by (with_reducible repeat (first | refine blk_drewN ?_ _ | refine blk_drew ?_ | refine blk_alloc ?_ _)); exact BK308.out) hb)
                          have n5_ := Aside0.mk (below_step (by repeat (first | (with_reducible first | exact HB.out | apply below_alloc | apply pw_below_drewN | apply below_drew1 | refine below_set ?_ GE292.out | refine below_set ?_ GE300.out | refine below_set ?_ GE308.out) | exact HB.out)) hb)
                          clear HO_301002
                          clear HO_309002
                          clear BK292
                          clear BK300
                          clear BK308
                          clear HB
                          have HO_301002 := n0_
                          have HO_309002 := n1_
                          have BK292 := n2_
                          have BK300 := n3_
                          have BK308 := n4_
                          have HB := n5_
                          clear n0_ n1_ n2_ n3_ n4_ n5_
                          (try clear hb)
                          (try clear hb2)
                          (try clear hk)
                          (try clear hi)
                          refine hK.out _ _ ⟨(blk_cell BK300.out 0).trans rfl, (blk_cell BK300.out 1).trans rfl, (blk_cell BK300.out 2).trans rfl, (blk_cell BK292.out 0).trans rfl, (blk_cell BK292.out 1).trans rfl, (blk_cell BK292.out 2).trans rfl, ((HB.out.cell (World.block_lt_of_cell? w _ hw310_0)).trans hw310_0), ((HB.out.cell (World.block_lt_of_cell? w _ hw310_1)).trans hw310_1)⟩ (fun hHeld => ?_)
                          clear hK K
                          refine norm_ (a' := ?_) ?_ ?_
                          rotate_left
                          · show Act.put _ (some 75) _ = _
                            simp only [Act.put, List.setIfInBounds_toArray, List.set_cons_zero, List.set_cons_succ, i64_w, i32_w]
                            rfl
                          refine pure_ (i := 8) (N := some 67) (v := ?_) (a' := ?_) #[true, true, true, true, true, true, true, true, true, false, false, false, false] rfl rfl (any_of HT_.out (by kernel_rfl)) (fun _ _ _ h => h) (Or.inl ⟨by rfl, ?_⟩) ?_ ?_
                          rotate_left
                          · intro w'
                            go_simp
                            with_reducible rfl
                          rotate_left
                          · simp only [Act.put, List.setIfInBounds_toArray, List.set_cons_zero, List.set_cons_succ, i64_w, i32_w]
                            rfl
                          refine pure_ (i := 9) (N := some 76) (v := ?_) (a' := ?_) #[true, true, true, true, true, true, true, true, true, true, false, false, false] rfl rfl (any_of HT_.out (by kernel_rfl)) (fun _ _ _ h => h) (Or.inl ⟨by rfl, ?_⟩) ?_ ?_
                          rotate_left
                          · intro w'
                            go_simp
                            with_reducible rfl
                          rotate_left
                          · simp only [Act.put, List.setIfInBounds_toArray, List.set_cons_zero, List.set_cons_succ, i64_w, i32_w]
                            rfl
                          refine pure_ (i := 10) (N := some 77) (v := ?_) (a' := ?_) #[true, true, true, true, true, true, true, true, true, true, true, false, false] rfl rfl (any_of HT_.out (by kernel_rfl)) (fun _ _ _ h => h) (Or.inl ⟨by rfl, ?_⟩) ?_ ?_
                          rotate_left
                          · intro w'
                            go_simp
                            with_reducible rfl
                          rotate_left
                          · simp only [Act.put, List.setIfInBounds_toArray, List.set_cons_zero, List.set_cons_succ, i64_w, i32_w]
                            rfl
                          refine pure_ (i := 11) (N := some 10) (v := ?_) (a' := ?_) #[true, true, true, true, true, true, true, true, true, true, true, true, false] rfl rfl (any_of HT_.out (by kernel_rfl)) (fun _ _ _ h => h) (Or.inl ⟨by rfl, ?_⟩) ?_ ?_
                          rotate_left
                          · intro w'
                            go_simp
                            with_reducible rfl
                          rotate_left
                          · simp only [Act.put, List.setIfInBounds_toArray, List.set_cons_zero, List.set_cons_succ, i64_w, i32_w]
                            rfl
                          refine pure_ (i := 12) (N := some 11) (v := ?_) (a' := ?_) #[true, true, true, true, true, true, true, true, true, true, true, true, true] rfl rfl (any_of HT_.out (by kernel_rfl)) (fun _ _ _ h => h) (Or.inl ⟨by rfl, ?_⟩) ?_ ?_
                          rotate_left
                          · intro w'
                            go_simp
                            with_reducible rfl
                          rotate_left
                          · simp only [Act.put, List.setIfInBounds_toArray, List.set_cons_zero, List.set_cons_succ, i64_w, i32_w]
                            rfl
                          refine done_ (done_of HT_.out (by kernel_rfl)) ?_
                          have hcz63_0 : w62.cell? ⟨gb292, 0, none⟩ = some (.string a0_0) := (blk_cell BK292.out 0).trans rfl
                          have hcz63_1 : w62.cell? ⟨gb292, 1, none⟩ = some (.string a0_1) := (blk_cell BK292.out 1).trans rfl
                          have hcz63_2 : w62.cell? ⟨gb292, 2, none⟩ = some (.slice (some ad310) l0_2.length c0_2) := (blk_cell BK292.out 2).trans rfl
                          have hfz63_0 := blk_frozen BK292.out 0
                          have hfz63_1 := blk_frozen BK292.out 1
                          have hfz63_2 := blk_frozen BK292.out 2
                          have p313 : 0 ≤ (x9_3 : Int) := of_decide_eq_true (by first | (with_reducible assumption) | assumption)
                          have q313 : x9_3 < (l0_2.length : Int) := of_decide_eq_true (by first | (with_reducible assumption) | assumption)
                          obtain ⟨ad313, e313, hx313_0, hx313_1⟩ := at_T34 HR0_2.out x9_3 p313 q313
                          obtain rfl : ad310 = ad313 := (by injection e313)
                          replace hx313_0 := (HB.out.cell (World.block_lt_of_cell? w _ hx313_0)).trans hx313_0
                          replace hx313_1 := (HB.out.cell (World.block_lt_of_cell? w _ hx313_1)).trans hx313_1
                          replace p313 := eq_true p313
                          replace q313 := eq_true q313
                          try go_wp2
                          go_ret
                          exact ⟨by first | rfl | (simp [errW_none, errW_some] <;> rfl) | (simp [*, errW_none, errW_some] <;> rfl), by repeat (first | (with_reducible first | exact HB.out | apply below_alloc | apply pw_below_drewN | apply below_drew1 | refine below_set ?_ GE292.out | refine below_set ?_ GE300.out | refine below_set ?_ GE308.out) | exact HB.out)⟩
                      · replace c50 := Bool.eq_false_iff.mpr c50
                        subst c50
                        have H1 : (some false) = some r := by rw [if_neg (show ¬ (false = true) by decide)] at H; exact H
                        clear H
                        have H := H1
                        clear H1
                        obtain rfl := Option.some.inj H
                        have hnb64 := NB292_300.out
                        have hnc64 := NB300_292.out
                        have hnb65 := NB292_308.out
                        have hnc65 := NB308_292.out
                        have hcz66_0 : wr.cell? ⟨gb292, 0, none⟩ = some (.string a0_0) := (blk_cell BK292.out 0).trans rfl
                        have hcz66_1 : wr.cell? ⟨gb292, 1, none⟩ = some (.string a0_1) := (blk_cell BK292.out 1).trans rfl
                        have hcz66_2 : wr.cell? ⟨gb292, 2, none⟩ = some (.slice A0_2 l0_2.length c0_2) := (blk_cell BK292.out 2).trans rfl
                        have hfz66_0 := blk_frozen BK292.out 0
                        have hfz66_1 := blk_frozen BK292.out 1
                        have hfz66_2 := blk_frozen BK292.out 2
                        try go_wp2
                        have n0_ := Aside0.mk (Kd.R_drew HO_301002.out)
                        have n1_ := Aside0.mk (Kd.R_drew HO_309002.out)
                        have n2_ := Aside0.mk (blk_drew BK292.out)
                        have n3_ := Aside0.mk (blk_drew BK300.out)
                        have n4_ := Aside0.mk (blk_drew BK308.out)
                        have n5_ := Aside0.mk (below_drew1 HB.out)
                        clear HO_301002
                        clear HO_309002
                        clear BK292
                        clear BK300
                        clear BK308
                        clear HB
                        have HO_301002 := n0_
                        have HO_309002 := n1_
                        have BK292 := n2_
                        have BK300 := n3_
                        have BK308 := n4_
                        have HB := n5_
                        clear n0_ n1_ n2_ n3_ n4_ n5_
                        have p310 : 0 ≤ (x9_3 : Int) := of_decide_eq_true (by first | (with_reducible assumption) | assumption)
                        have q310 : x9_3 < (l0_2.length : Int) := of_decide_eq_true (by first | (with_reducible assumption) | assumption)
                        obtain ⟨ad310, e310, hx310_0, hx310_1⟩ := at_T34 HR0_2.out x9_3 p310 q310
                        have hw310_1 := hx310_1
                        have hw310_0 := hx310_0
                        cases e310
                        replace hx310_0 := (HB.out.cell (World.block_lt_of_cell? w _ hx310_0)).trans hx310_0
                        replace hx310_1 := (HB.out.cell (World.block_lt_of_cell? w _ hx310_1)).trans hx310_1
                        replace p310 := eq_true p310
                        replace q310 := eq_true q310
                        refine start_ (n := 13) (S := fun w' => w'.cell? ⟨gb300, 0, none⟩ = some (.string t294) ∧ w'.cell? ⟨gb300, 1, none⟩ = some (.string t295) ∧ w'.cell? ⟨gb300, 2, none⟩ = some (.slice Ao12 t296.length co12) ∧ w'.cell? ⟨gb292, 0, none⟩ = some (.string a0_0) ∧ w'.cell? ⟨gb292, 1, none⟩ = some (.string a0_1) ∧ w'.cell? ⟨gb292, 2, none⟩ = some (.slice (some ad310) l0_2.length c0_2) ∧ w'.cell? (ad310.add ((x9_3).toNat * 2)) = some (.string ((rd_T34 l0_2 x9_3).f0)) ∧ w'.cell? ⟨(ad310.add ((x9_3).toNat * 2)).block, (ad310.add ((x9_3).toNat * 2)).off + 1, none⟩ = some (.string ((rd_T34 l0_2 x9_3).f1))) (ds := []) #[false, false, false, false, false, false, false, false, false, false, false, false, false] (by kernel_rfl) rfl rfl ⟨(blk_cell BK300.out 0).trans rfl, (blk_cell BK300.out 1).trans rfl, (blk_cell BK300.out 2).trans rfl, (blk_cell BK292.out 0).trans rfl, (blk_cell BK292.out 1).trans rfl, (blk_cell BK292.out 2).trans rfl, ((HB.out.cell (World.block_lt_of_cell? w _ hw310_0)).trans hw310_0), ((HB.out.cell (World.block_lt_of_cell? w _ hw310_1)).trans hw310_1)⟩ (fun hHeld => ?_); refine with_tabW majordomolaw06_ResourceFull.tab12 majordomolaw06_ResourceFull.bits12 (fun HT_ HW_ => ?_)
                        generalize wr.drew = w67 at HO_301002 HO_309002 BK292 BK300 BK308 HB hx310_0 hx310_1 hHeld ⊢
                        refine pure_ (i := 1) (N := some 69) (v := ?_) (a' := ?_) #[false, true, false, false, false, false, false, false, false, false, false, false, false] rfl rfl (any_of HT_.out (by kernel_rfl)) (fun _ _ _ h => h) (Or.inl ⟨by rfl, ?_⟩) ?_ ?_
                        rotate_left
                        · intro w'
                          go_simp
                          with_reducible rfl
                        rotate_left
                        · simp only [Act.put, List.setIfInBounds_toArray, List.set_cons_zero, List.set_cons_succ, i64_w, i32_w]
                          rfl
                        refine pure_ (i := 3) (N := some 71) (v := ?_) (a' := ?_) #[false, true, false, true, false, false, false, false, false, false, false, false, false] rfl rfl (any_of HT_.out (by kernel_rfl)) (fun _ _ _ h => h) (Or.inl ⟨by rfl, ?_⟩) ?_ ?_
                        rotate_left
                        · intro w'
                          go_simp
                          with_reducible rfl
                        rotate_left
                        · simp only [Act.put, List.setIfInBounds_toArray, List.set_cons_zero, List.set_cons_succ, i64_w, i32_w]
                          rfl
                        refine take_ (i := 0) (N := some 68) (v := ?_) (a' := ?_) #[true, true, false, true, false, false, false, false, false, false, false, false, false] rfl rfl (take_ofW HT_.out HW_.out (by kernel_rfl)) (fun _ _ _ h => h) (Or.inl ⟨by rfl, ?_⟩) hHeld ?_ ?_
                        rotate_left
                        · rintro w' ⟨s0, s1, s2, s3, s4, s5, s6, s7⟩
                          go_simp
                          with_reducible rfl
                        rotate_left
                        · simp only [Act.put, List.setIfInBounds_toArray, List.set_cons_zero, List.set_cons_succ, i64_w, i32_w]
                          rfl
                        refine take_ (i := 2) (N := some 70) (v := ?_) (a' := ?_) #[true, true, true, true, false, false, false, false, false, false, false, false, false] rfl rfl (take_ofW HT_.out HW_.out (by kernel_rfl)) (fun _ _ _ h => h) (Or.inl ⟨by rfl, ?_⟩) hHeld ?_ ?_
                        rotate_left
                        · rintro w' ⟨s0, s1, s2, s3, s4, s5, s6, s7⟩
                          go_simp
                          with_reducible rfl
                        rotate_left
                        · simp only [Act.put, List.setIfInBounds_toArray, List.set_cons_zero, List.set_cons_succ, i64_w, i32_w]
                          rfl
                        refine pure_ (i := 4) (N := some 72) (v := ?_) (a' := ?_) #[true, true, true, true, true, false, false, false, false, false, false, false, false] rfl rfl (any_of HT_.out (by kernel_rfl)) (fun _ _ _ h => h) (Or.inl ⟨by rfl, ?_⟩) ?_ ?_
                        rotate_left
                        · intro w'
                          go_simp
                          with_reducible rfl
                        rotate_left
                        · simp only [Act.put, List.setIfInBounds_toArray, List.set_cons_zero, List.set_cons_succ, i64_w, i32_w]
                          rfl
                        refine pure_ (i := 5) (N := some 73) (v := ?_) (a' := ?_) #[true, true, true, true, true, true, false, false, false, false, false, false, false] rfl rfl (any_of HT_.out (by kernel_rfl)) (fun _ _ _ h => h) (Or.inl ⟨by rfl, ?_⟩) ?_ ?_
                        rotate_left
                        · intro w'
                          go_simp
                          with_reducible rfl
                        rotate_left
                        · simp only [Act.put, List.setIfInBounds_toArray, List.set_cons_zero, List.set_cons_succ, i64_w, i32_w]
                          rfl
                        refine take_ (i := 6) (N := some 74) (v := ?_) (a' := ?_) #[true, true, true, true, true, true, true, false, false, false, false, false, false] rfl rfl (take_ofW HT_.out HW_.out (by kernel_rfl)) (fun _ _ _ h => h) (Or.inl ⟨by rfl, ?_⟩) hHeld ?_ ?_
                        rotate_left
                        · rintro w' ⟨s0, s1, s2, s3, s4, s5, s6, s7⟩
                          go_simp
                          with_reducible rfl
                        rotate_left
                        · simp only [Act.put, List.setIfInBounds_toArray, List.set_cons_zero, List.set_cons_succ, i64_w, i32_w]
                          rfl
                        refine one_ (i := 7) (N := some 75) #[true, true, true, true, true, true, true, true, false, false, false, false, false] rfl rfl (one_of HT_.out (by kernel_rfl)) (by decide) (fun K hK => ?_)
                        refine goes_ Tryd.func11 (by kernel_rfl) rfl #[.agg #[.string t294, .string t295, .slice Ao12 t296.length co12], .string ((rd_T34 l0_2 x9_3).f0)] (by rfl) rfl rfl (by (try simp only [List.map_toArray, List.map_cons, List.map_nil]); first | done | rfl | (simp only [List.length_drop, List.length_take]; rfl)) ?_
                        with_reducible refine (resource_Get.calls k3 t294 t295 _ _ t296 ((rd_T34 l0_2 x9_3).f0) t311 false _ ?side1 ?side2 A49.out).mono ?_
                        (case side1 => repeat (first | exact (Kd.R_reads' HO_301002.out).2.2 | (with_reducible refine Kd.C_alloc ?_ _) | (with_reducible refine Kd.C_drewN ?_ _) | (with_reducible refine Kd.C_drew ?_)))
                        (case side2 => exact (Kd.R_reads' HO_301002.out).2.1)
                        rintro e w68 ⟨rfl, hb⟩
                        refine ⟨_, rfl, ?_⟩
                        have n0_ := Aside0.mk (Kd.R_below (by (with_reducible repeat (first | apply Kd.R_alloc | apply Kd.R_drewN | apply Kd.R_drew)); exact HO_301002.out) hb)
                        have n1_ := Aside0.mk (Kd.R_below (by (with_reducible repeat (first | apply Kd.R_alloc | apply Kd.R_drewN | apply Kd.R_drew)); exact HO_309002.out) hb)
                        have n2_ := Aside0.mk (blk_below (g := gb292) (o := .cells #[.string a0_0, .string a0_1, .slice (some ad310) l0_2.length c0_2] 24 (0, 0)) (by (with_reducible repeat (first | refine blk_drewN ?_ _ | refine blk_drew ?_ | refine blk_alloc ?_ _)); exact BK292.out) hb)
                        have n3_ := Aside0.mk (blk_below (g := gb300) (o := .cells #[.string t294, .string t295, .slice Ao12 t296.length co12] 24 (0, 0)) (by (with_reducible repeat (first | refine blk_drewN ?_ _ | refine blk_drew ?_ | refine blk_alloc ?_ _)); exact BK300.out) hb)
                        have n4_ := Aside0.mk (blk_below (g := gb308) (o := .cells #[.string t302, .string t303, .slice Ao30 t304.length co30] 24 (0, 0)) (by (with_reducible repeat (first | refine blk_drewN ?_ _ | refine blk_drew ?_ | refine blk_alloc ?_ _)); exact BK308.out) hb)
                        have n5_ := Aside0.mk (below_step (by repeat (first | (with_reducible first | exact HB.out | apply below_alloc | apply pw_below_drewN | apply below_drew1 | refine below_set ?_ GE292.out | refine below_set ?_ GE300.out | refine below_set ?_ GE308.out) | exact HB.out)) hb)
                        clear HO_301002
                        clear HO_309002
                        clear BK292
                        clear BK300
                        clear BK308
                        clear HB
                        have HO_301002 := n0_
                        have HO_309002 := n1_
                        have BK292 := n2_
                        have BK300 := n3_
                        have BK308 := n4_
                        have HB := n5_
                        clear n0_ n1_ n2_ n3_ n4_ n5_
                        (try clear hb)
                        (try clear hb2)
                        (try clear hk)
                        (try clear hi)
                        refine hK.out _ _ ⟨(blk_cell BK300.out 0).trans rfl, (blk_cell BK300.out 1).trans rfl, (blk_cell BK300.out 2).trans rfl, (blk_cell BK292.out 0).trans rfl, (blk_cell BK292.out 1).trans rfl, (blk_cell BK292.out 2).trans rfl, ((HB.out.cell (World.block_lt_of_cell? w _ hw310_0)).trans hw310_0), ((HB.out.cell (World.block_lt_of_cell? w _ hw310_1)).trans hw310_1)⟩ (fun hHeld => ?_)
                        clear hK K
                        refine norm_ (a' := ?_) ?_ ?_
                        rotate_left
                        · show Act.put _ (some 75) _ = _
                          simp only [Act.put, List.setIfInBounds_toArray, List.set_cons_zero, List.set_cons_succ, i64_w, i32_w]
                          rfl
                        refine pure_ (i := 8) (N := some 67) (v := ?_) (a' := ?_) #[true, true, true, true, true, true, true, true, true, false, false, false, false] rfl rfl (any_of HT_.out (by kernel_rfl)) (fun _ _ _ h => h) (Or.inl ⟨by rfl, ?_⟩) ?_ ?_
                        rotate_left
                        · intro w'
                          go_simp
                          with_reducible rfl
                        rotate_left
                        · simp only [Act.put, List.setIfInBounds_toArray, List.set_cons_zero, List.set_cons_succ, i64_w, i32_w]
                          rfl
                        refine pure_ (i := 9) (N := some 76) (v := ?_) (a' := ?_) #[true, true, true, true, true, true, true, true, true, true, false, false, false] rfl rfl (any_of HT_.out (by kernel_rfl)) (fun _ _ _ h => h) (Or.inl ⟨by rfl, ?_⟩) ?_ ?_
                        rotate_left
                        · intro w'
                          go_simp
                          with_reducible rfl
                        rotate_left
                        · simp only [Act.put, List.setIfInBounds_toArray, List.set_cons_zero, List.set_cons_succ, i64_w, i32_w]
                          rfl
                        refine pure_ (i := 10) (N := some 77) (v := ?_) (a' := ?_) #[true, true, true, true, true, true, true, true, true, true, true, false, false] rfl rfl (any_of HT_.out (by kernel_rfl)) (fun _ _ _ h => h) (Or.inl ⟨by rfl, ?_⟩) ?_ ?_
                        rotate_left
                        · intro w'
                          go_simp
                          with_reducible rfl
                        rotate_left
                        · simp only [Act.put, List.setIfInBounds_toArray, List.set_cons_zero, List.set_cons_succ, i64_w, i32_w]
                          rfl
                        refine pure_ (i := 11) (N := some 10) (v := ?_) (a' := ?_) #[true, true, true, true, true, true, true, true, true, true, true, true, false] rfl rfl (any_of HT_.out (by kernel_rfl)) (fun _ _ _ h => h) (Or.inl ⟨by rfl, ?_⟩) ?_ ?_
                        rotate_left
                        · intro w'
                          go_simp
                          with_reducible rfl
                        rotate_left
                        · simp only [Act.put, List.setIfInBounds_toArray, List.set_cons_zero, List.set_cons_succ, i64_w, i32_w]
                          rfl
                        refine pure_ (i := 12) (N := some 11) (v := ?_) (a' := ?_) #[true, true, true, true, true, true, true, true, true, true, true, true, true] rfl rfl (any_of HT_.out (by kernel_rfl)) (fun _ _ _ h => h) (Or.inl ⟨by rfl, ?_⟩) ?_ ?_
                        rotate_left
                        · intro w'
                          go_simp
                          with_reducible rfl
                        rotate_left
                        · simp only [Act.put, List.setIfInBounds_toArray, List.set_cons_zero, List.set_cons_succ, i64_w, i32_w]
                          rfl
                        refine done_ (done_of HT_.out (by kernel_rfl)) ?_
                        try go_wp2
                        go_ret
                        exact ⟨by first | rfl | (simp [errW_none, errW_some] <;> rfl) | (simp [*, errW_none, errW_some] <;> rfl), by repeat (first | (with_reducible first | exact HB.out | apply below_alloc | apply pw_below_drewN | apply below_drew1 | refine below_set ?_ GE292.out | refine below_set ?_ GE300.out | refine below_set ?_ GE308.out) | exact HB.out)⟩
                    · rw [if_neg c48] at H
                      exact absurd H (by simp)
                  · rw [if_neg c47] at H
                    have c47b0 : decide (x9_3 < (l0_2.length : Int)) = false := decide_eq_false c47
                    clear c47
                    have H' := Aside0.mk H
                    clear H
                    have hnb69 := NB292_300.out
                    have hnc69 := NB300_292.out
                    have hnb70 := NB292_308.out
                    have hnc70 := NB308_292.out
                    have hcz71_0 : wr.cell? ⟨gb292, 0, none⟩ = some (.string a0_0) := (blk_cell BK292.out 0).trans rfl
                    have hcz71_1 : wr.cell? ⟨gb292, 1, none⟩ = some (.string a0_1) := (blk_cell BK292.out 1).trans rfl
                    have hcz71_2 : wr.cell? ⟨gb292, 2, none⟩ = some (.slice A0_2 l0_2.length c0_2) := (blk_cell BK292.out 2).trans rfl
                    have hfz71_0 := blk_frozen BK292.out 0
                    have hfz71_1 := blk_frozen BK292.out 1
                    have hfz71_2 := blk_frozen BK292.out 2
                    go_wp2
                    go_loopg [12] k3 (fun kq v12 w' => ∃ (x12_4 : Int), v12 = .int .i64 x12_4 ∧ Aside0 (majordomolaw06_ResourceFull.l1 kq x12_4 t294 t295 t296 = some r) ∧ Aside0 (kq ≤ k3) ∧ Aside0 (Kd.R k34 34 w' w.heap.size (fun k_ => some k_ ≠ ((.slice Ao30 t304.length co30) : Value).ownBlock) (.slice Ao12 t296.length co12) t296) ∧ Aside0 (Kd.R k34 34 w' w.heap.size (fun k_ => some k_ ≠ ((.slice Ao12 t296.length co12) : Value).ownBlock) (.slice Ao30 t304.length co30) t304) ∧ Aside0 (w'.heap[gb292]? = some (.cells #[.string a0_0, .string a0_1, (.slice A0_2 l0_2.length c0_2)] 24 (0, 0))) ∧ Aside0 (w'.heap[gb300]? = some (.cells #[.string t294, .string t295, (.slice Ao12 t296.length co12)] 24 (0, 0))) ∧ Aside0 (w'.heap[gb308]? = some (.cells #[.string t302, .string t303, (.slice Ao30 t304.length co30)] 24 (0, 0))) ∧ Aside0 (Below w.heap.size w w'))
                    case atStart => exact ⟨(1), (by first | rfl | (simp; done) | (simp [*]; done)), H', ⟨Nat.le_refl _⟩, ⟨by (with_reducible repeat (first | apply Kd.R_alloc | apply Kd.R_drewN | apply Kd.R_drew)); exact HO_301002.out⟩, ⟨by (with_reducible repeat (first | apply Kd.R_alloc | apply Kd.R_drewN | apply Kd.R_drew)); exact HO_309002.out⟩, ⟨by (with_reducible repeat (first | refine blk_drewN ?_ _ | refine blk_drew ?_ | refine blk_alloc ?_ _)); exact BK292.out⟩, ⟨by (with_reducible repeat (first | refine blk_drewN ?_ _ | refine blk_drew ?_ | refine blk_alloc ?_ _)); exact BK300.out⟩, ⟨by (with_reducible repeat (first | refine blk_drewN ?_ _ | refine blk_drew ?_ | refine blk_alloc ?_ _)); exact BK308.out⟩, ⟨by repeat (first | (with_reducible first | exact HB.out | apply below_alloc | apply pw_below_drewN | apply below_drew1 | refine below_set ?_ GE292.out | refine below_set ?_ GE300.out | refine below_set ?_ GE308.out) | exact HB.out)⟩⟩
                    case round =>
                      clear H'
                      try clear c1
                      try clear p2
                      try clear p3
                      try clear q3
                      try clear hx3
                      try clear c4
                      try clear c5
                      try clear c6
                      try clear p6
                      try clear c7
                      try clear c11
                      try clear p31
                      try clear q31
                      try clear hx31
                      try clear c47
                      try clear c47b0
                      try clear c48
                      try clear c50
                      try clear c51
                      try clear c51b0
                      try clear c51b1
                      try clear c52
                      try clear c53
                      try clear c58
                      try clear c59
                      try clear c64
                      try clear p64
                      try clear c65
                      try clear c69
                      try clear c70
                      try clear hcz54_0
                      try clear hcz54_1
                      try clear hcz54_2
                      try clear hcz57_0
                      try clear hcz57_1
                      try clear hcz57_2
                      try clear hcz60_0
                      try clear hcz60_1
                      try clear hcz60_2
                      try clear hcz63_0
                      try clear hcz63_1
                      try clear hcz63_2
                      try clear hcz66_0
                      try clear hcz66_1
                      try clear hcz66_2
                      try clear hcz71_0
                      try clear hcz71_1
                      try clear hcz71_2
                      try clear hfz54_0
                      try clear hfz54_1
                      try clear hfz54_2
                      try clear hfz57_0
                      try clear hfz57_1
                      try clear hfz57_2
                      try clear hfz60_0
                      try clear hfz60_1
                      try clear hfz60_2
                      try clear hfz63_0
                      try clear hfz63_1
                      try clear hfz63_2
                      try clear hfz66_0
                      try clear hfz66_1
                      try clear hfz66_2
                      try clear hfz71_0
                      try clear hfz71_1
                      try clear hfz71_2
                      try clear hx310_0
                      try clear hx310_1
                      try clear hx313_0
                      try clear hx313_1
                      try clear p310
                      try clear p313
                      try clear q310
                      try clear q313
                      obtain ⟨x12_4, rfl, HA, HK4, HO_301002, HO_309002, BK292, BK300, BK308, HB⟩ := hrel
                      cases gk with
                      | zero => exact absurd HA.out (by simp [majordomolaw06_ResourceFull.l1])
                      | succ k4 =>
                        have H := HA.out
                        clear HA
                        simp only [majordomolaw06_ResourceFull.l1] at H
                        by_cases c72 : x12_4 < (t296.length : Int)
                        · rw [if_pos c72] at H
                          have c72b0 : decide (x12_4 < (t296.length : Int)) = true := decide_eq_true c72
                          clear c72
                          by_cases c73 : 0 ≤ x12_4
                          · rw [if_pos c73] at H
                            have c73b0 : decide (0 ≤ x12_4) = true := decide_eq_true c73
                            clear c73
                            obtain ⟨ji74, hji74⟩ : ∃ j_ : Int, (wrap64 (x12_4 - 1)) = j_ := ⟨_, rfl⟩
                            replace H : (if 0 ≤ (ji74) then (if (ji74) < (t296.length : Int) then (if ((Op.bytesLess (((rd_T34 t296 (ji74)).f0).toList) (((rd_T34 t296 x12_4).f0).toList)) = true) then (majordomolaw06_ResourceFull.l1 k4 (wrap64 (x12_4 + 1)) t294 t295 t296) else (some false)) else (none)) else (none)) = some r := by first | (rw [hji74] at H; exact H) | (simp only [hji74] at H ⊢; exact H)
                            have hji74w : (IntKind.i64.wrap (x12_4 - 1)) = ji74 := (i64_w _).trans hji74
                            by_cases c75 : 0 ≤ (ji74)
                            · rw [if_pos c75] at H
                              have c75b0 : decide (0 ≤ (ji74)) = true := decide_eq_true c75
                              clear c75
                              by_cases c76 : (ji74) < (t296.length : Int)
                              · rw [if_pos c76] at H
                                have c76b0 : decide ((ji74) < (t296.length : Int)) = true := decide_eq_true c76
                                clear c76
                                by_cases c77 : ((Op.bytesLess (((rd_T34 t296 (ji74)).f0).toList) (((rd_T34 t296 x12_4).f0).toList)) = true)
                                · rw [if_pos c77] at H
                                  have c77b0 : (Op.bytesLess (((rd_T34 t296 (ji74)).f0).toList) (((rd_T34 t296 x12_4).f0).toList)) = true := c77
                                  clear c77
                                  have H' := Aside0.mk H
                                  clear H
                                  have hnb78 := NB300_292.out
                                  have hnc78 := NB292_300.out
                                  have hnb79 := NB300_308.out
                                  have hnc79 := NB308_300.out
                                  have hcz80_0 : wr.cell? ⟨gb300, 0, none⟩ = some (.string t294) := (blk_cell BK300.out 0).trans rfl
                                  have hcz80_1 : wr.cell? ⟨gb300, 1, none⟩ = some (.string t295) := (blk_cell BK300.out 1).trans rfl
                                  have hcz80_2 : wr.cell? ⟨gb300, 2, none⟩ = some (.slice Ao12 t296.length co12) := (blk_cell BK300.out 2).trans rfl
                                  have hfz80_0 := blk_frozen BK300.out 0
                                  have hfz80_1 := blk_frozen BK300.out 1
                                  have hfz80_2 := blk_frozen BK300.out 2
                                  try go_wp2
                                  have n0_ := Aside0.mk (Kd.R_drew HO_301002.out)
                                  have n1_ := Aside0.mk (Kd.R_drew HO_309002.out)
                                  have n2_ := Aside0.mk (blk_drew BK292.out)
                                  have n3_ := Aside0.mk (blk_drew BK300.out)
                                  have n4_ := Aside0.mk (blk_drew BK308.out)
                                  have n5_ := Aside0.mk (below_drew1 HB.out)
                                  clear HO_301002
                                  clear HO_309002
                                  clear BK292
                                  clear BK300
                                  clear BK308
                                  clear HB
                                  have HO_301002 := n0_
                                  have HO_309002 := n1_
                                  have BK292 := n2_
                                  have BK300 := n3_
                                  have BK308 := n4_
                                  have HB := n5_
                                  clear n0_ n1_ n2_ n3_ n4_ n5_
                                  have p314 : 0 ≤ (x12_4 : Int) := of_decide_eq_true (by first | (with_reducible assumption) | assumption)
                                  have q314 : x12_4 < (t296.length : Int) := of_decide_eq_true (by first | (with_reducible assumption) | assumption)
                                  obtain ⟨ad314, e314, hx314_0, hx314_1⟩ := at_T34 (Kd.R_reads' HO_301002.out).2.2 x12_4 p314 q314
                                  cases e314
                                  replace p314 := eq_true p314
                                  replace q314 := eq_true q314
                                  have p315 : 0 ≤ ((ji74) : Int) := of_decide_eq_true (by first | (with_reducible assumption) | assumption)
                                  have q315 : (ji74) < (t296.length : Int) := of_decide_eq_true (by first | (with_reducible assumption) | assumption)
                                  obtain ⟨ad315, e315, hx315_0, hx315_1⟩ := at_T34 (Kd.R_reads' HO_301002.out).2.2 (ji74) p315 q315
                                  obtain rfl : ad314 = ad315 := (by injection e315)
                                  replace p315 := eq_true p315
                                  replace q315 := eq_true q315
                                  refine start_ (n := 14) (S := fun w' => w'.cell? ⟨gb300, 0, none⟩ = some (.string t294) ∧ w'.cell? ⟨gb300, 1, none⟩ = some (.string t295) ∧ w'.cell? ⟨gb300, 2, none⟩ = some (.slice (some ad314) t296.length co12) ∧ w'.cell? (ad314.add ((x12_4).toNat * 2)) = some (.string ((rd_T34 t296 x12_4).f0)) ∧ w'.cell? ⟨(ad314.add ((x12_4).toNat * 2)).block, (ad314.add ((x12_4).toNat * 2)).off + 1, none⟩ = some (.string ((rd_T34 t296 x12_4).f1)) ∧ w'.cell? (ad314.add (((ji74)).toNat * 2)) = some (.string ((rd_T34 t296 (ji74)).f0)) ∧ w'.cell? ⟨(ad314.add (((ji74)).toNat * 2)).block, (ad314.add (((ji74)).toNat * 2)).off + 1, none⟩ = some (.string ((rd_T34 t296 (ji74)).f1))) (ds := []) #[false, false, false, false, false, false, false, false, false, false, false, false, false, false] (by kernel_rfl) rfl rfl ⟨(blk_cell BK300.out 0).trans rfl, (blk_cell BK300.out 1).trans rfl, (blk_cell BK300.out 2).trans rfl, hx314_0, hx314_1, hx315_0, hx315_1⟩ (fun hHeld => ?_); refine with_tabW majordomolaw06_ResourceFull.tab18 majordomolaw06_ResourceFull.bits18 (fun HT_ HW_ => ?_)
                                  generalize wr.drew = w81 at HO_301002 HO_309002 BK292 BK300 BK308 HB hx314_0 hx314_1 hx315_0 hx315_1 hHeld ⊢
                                  refine pure_ (i := 0) (N := some 97) (v := ?_) (a' := ?_) #[true, false, false, false, false, false, false, false, false, false, false, false, false, false] rfl rfl (any_of HT_.out (by kernel_rfl)) (fun _ _ _ h => h) (Or.inl ⟨by rfl, ?_⟩) ?_ ?_
                                  rotate_left
                                  · intro w'
                                    go_simp
                                    with_reducible rfl
                                  rotate_left
                                  · simp only [Act.put, List.setIfInBounds_toArray, List.set_cons_zero, List.set_cons_succ, i64_w, i32_w]
                                    rfl
                                  refine pure_ (i := 2) (N := some 99) (v := ?_) (a' := ?_) #[true, false, true, false, false, false, false, false, false, false, false, false, false, false] rfl rfl (any_of HT_.out (by kernel_rfl)) (fun _ _ _ h => h) (Or.inl ⟨by rfl, ?_⟩) ?_ ?_
                                  rotate_left
                                  · intro w'
                                    go_simp
                                    with_reducible rfl
                                  rotate_left
                                  · simp only [Act.put, List.setIfInBounds_toArray, List.set_cons_zero, List.set_cons_succ, i64_w, i32_w]
                                    rfl
                                  refine pure_ (i := 6) (N := some 103) (v := ?_) (a' := ?_) #[true, false, true, false, false, false, true, false, false, false, false, false, false, false] rfl rfl (any_of HT_.out (by kernel_rfl)) (fun _ _ _ h => h) (Or.inl ⟨by rfl, ?_⟩) ?_ ?_
                                  rotate_left
                                  · intro w'
                                    go_simp
                                    with_reducible rfl
                                  rotate_left
                                  · simp only [Act.put, List.setIfInBounds_toArray, List.set_cons_zero, List.set_cons_succ, i64_w, i32_w]
                                    rfl
                                  refine pure_ (i := 8) (N := some 105) (v := ?_) (a' := ?_) #[true, false, true, false, false, false, true, false, true, false, false, false, false, false] rfl rfl (any_of HT_.out (by kernel_rfl)) (fun _ _ _ h => h) (Or.inl ⟨by rfl, ?_⟩) ?_ ?_
                                  rotate_left
                                  · intro w'
                                    go_simp
                                    with_reducible rfl
                                  rotate_left
                                  · simp only [Act.put, List.setIfInBounds_toArray, List.set_cons_zero, List.set_cons_succ, i64_w, i32_w]
                                    rfl
                                  refine pure_ (i := 9) (N := some 106) (v := ?_) (a' := ?_) #[true, false, true, false, false, false, true, false, true, true, false, false, false, false] rfl rfl (any_of HT_.out (by kernel_rfl)) (fun _ _ _ h => h) (Or.inl ⟨by rfl, ?_⟩) ?_ ?_
                                  rotate_left
                                  · intro w'
                                    go_simp
                                    with_reducible rfl
                                  rotate_left
                                  · simp only [Act.put, List.setIfInBounds_toArray, List.set_cons_zero, List.set_cons_succ, i64_w, i32_w]
                                    rfl
                                  refine take_ (i := 1) (N := some 98) (v := ?_) (a' := ?_) #[true, true, true, false, false, false, true, false, true, true, false, false, false, false] rfl rfl (take_ofW HT_.out HW_.out (by kernel_rfl)) (fun _ _ _ h => h) (Or.inl ⟨by rfl, ?_⟩) hHeld ?_ ?_
                                  rotate_left
                                  · rintro w' ⟨s0, s1, s2, s3, s4, s5, s6⟩
                                    go_simp
                                    with_reducible rfl
                                  rotate_left
                                  · simp only [Act.put, List.setIfInBounds_toArray, List.set_cons_zero, List.set_cons_succ, i64_w, i32_w]
                                    rfl
                                  refine pure_ (i := 3) (N := some 100) (v := ?_) (a' := ?_) #[true, true, true, true, false, false, true, false, true, true, false, false, false, false] rfl rfl (any_of HT_.out (by kernel_rfl)) (fun _ _ _ h => h) (Or.inl ⟨by rfl, ?_⟩) ?_ ?_
                                  rotate_left
                                  · intro w'
                                    go_simp
                                    with_reducible rfl
                                  rotate_left
                                  · simp only [Act.put, List.setIfInBounds_toArray, List.set_cons_zero, List.set_cons_succ, i64_w, i32_w]
                                    rfl
                                  refine pure_ (i := 4) (N := some 101) (v := ?_) (a' := ?_) #[true, true, true, true, true, false, true, false, true, true, false, false, false, false] rfl rfl (any_of HT_.out (by kernel_rfl)) (fun _ _ _ h => h) (Or.inl ⟨by rfl, ?_⟩) ?_ ?_
                                  rotate_left
                                  · intro w'
                                    go_simp
                                    with_reducible rfl
                                  rotate_left
                                  · simp only [Act.put, List.setIfInBounds_toArray, List.set_cons_zero, List.set_cons_succ, i64_w, i32_w]
                                    rfl
                                  refine take_ (i := 5) (N := some 102) (v := ?_) (a' := ?_) #[true, true, true, true, true, true, true, false, true, true, false, false, false, false] rfl rfl (take_ofW HT_.out HW_.out (by kernel_rfl)) (fun _ _ _ h => h) (Or.inl ⟨by rfl, ?_⟩) hHeld ?_ ?_
                                  rotate_left
                                  · rintro w' ⟨s0, s1, s2, s3, s4, s5, s6⟩
                                    go_simp
                                    with_reducible rfl
                                  rotate_left
                                  · simp only [Act.put, List.setIfInBounds_toArray, List.set_cons_zero, List.set_cons_succ, i64_w, i32_w]
                                    rfl
                                  refine take_ (i := 7) (N := some 104) (v := ?_) (a' := ?_) #[true, true, true, true, true, true, true, true, true, true, false, false, false, false] rfl rfl (take_ofW HT_.out HW_.out (by kernel_rfl)) (fun _ _ _ h => h) (Or.inl ⟨by rfl, ?_⟩) hHeld ?_ ?_
                                  rotate_left
                                  · rintro w' ⟨s0, s1, s2, s3, s4, s5, s6⟩
                                    go_simp
                                    with_reducible rfl
                                  rotate_left
                                  · simp only [Act.put, List.setIfInBounds_toArray, List.set_cons_zero, List.set_cons_succ, i64_w, i32_w]
                                    rfl
                                  refine pure_ (i := 10) (N := some 107) (v := ?_) (a' := ?_) #[true, true, true, true, true, true, true, true, true, true, true, false, false, false] rfl rfl (any_of HT_.out (by kernel_rfl)) (fun _ _ _ h => h) (Or.inl ⟨by rfl, ?_⟩) ?_ ?_
                                  rotate_left
                                  · intro w'
                                    go_simp
                                    with_reducible rfl
                                  rotate_left
                                  · simp only [Act.put, List.setIfInBounds_toArray, List.set_cons_zero, List.set_cons_succ, i64_w, i32_w]
                                    rfl
                                  refine pure_ (i := 11) (N := some 108) (v := ?_) (a' := ?_) #[true, true, true, true, true, true, true, true, true, true, true, true, false, false] rfl rfl (any_of HT_.out (by kernel_rfl)) (fun _ _ _ h => h) (Or.inl ⟨by rfl, ?_⟩) ?_ ?_
                                  rotate_left
                                  · intro w'
                                    go_simp
                                    with_reducible rfl
                                  rotate_left
                                  · simp only [Act.put, List.setIfInBounds_toArray, List.set_cons_zero, List.set_cons_succ, i64_w, i32_w]
                                    rfl
                                  refine take_ (i := 12) (N := some 109) (v := ?_) (a' := ?_) #[true, true, true, true, true, true, true, true, true, true, true, true, true, false] rfl rfl (take_ofW HT_.out HW_.out (by kernel_rfl)) (fun _ _ _ h => h) (Or.inl ⟨by rfl, ?_⟩) hHeld ?_ ?_
                                  rotate_left
                                  · rintro w' ⟨s0, s1, s2, s3, s4, s5, s6⟩
                                    go_simp
                                    with_reducible rfl
                                  rotate_left
                                  · simp only [Act.put, List.setIfInBounds_toArray, List.set_cons_zero, List.set_cons_succ, i64_w, i32_w]
                                    rfl
                                  refine pure_ (i := 13) (N := some 110) (v := ?_) (a' := ?_) #[true, true, true, true, true, true, true, true, true, true, true, true, true, true] rfl rfl (any_of HT_.out (by kernel_rfl)) (fun _ _ _ h => h) (Or.inl ⟨by rfl, ?_⟩) ?_ ?_
                                  rotate_left
                                  · intro w'
                                    go_simp
                                    with_reducible rfl
                                  rotate_left
                                  · simp only [Act.put, List.setIfInBounds_toArray, List.set_cons_zero, List.set_cons_succ, i64_w, i32_w]
                                    rfl
                                  refine done_ (done_of HT_.out (by kernel_rfl)) ?_
                                  try go_wp2
                                  go_roundg k4
                                  case measure => have := HJ3.out; have := HJ21.out; have := HK3.out; have := HK4.out; omega
                                  case rel => exact ⟨(wrap64 (x12_4 + 1)), (by first | rfl | (simp; done) | (simp [*]; done)), H', ⟨by have := HJ3.out; have := HJ21.out; have := HK3.out; have := HK4.out; omega⟩, ⟨by (with_reducible repeat (first | apply Kd.R_alloc | apply Kd.R_drewN | apply Kd.R_drew)); exact HO_301002.out⟩, ⟨by (with_reducible repeat (first | apply Kd.R_alloc | apply Kd.R_drewN | apply Kd.R_drew)); exact HO_309002.out⟩, ⟨by (with_reducible repeat (first | refine blk_drewN ?_ _ | refine blk_drew ?_ | refine blk_alloc ?_ _)); exact BK292.out⟩, ⟨by (with_reducible repeat (first | refine blk_drewN ?_ _ | refine blk_drew ?_ | refine blk_alloc ?_ _)); exact BK300.out⟩, ⟨by (with_reducible repeat (first | refine blk_drewN ?_ _ | refine blk_drew ?_ | refine blk_alloc ?_ _)); exact BK308.out⟩, ⟨by repeat (first | (with_reducible first | exact HB.out | apply below_alloc | apply pw_below_drewN | apply below_drew1 | refine below_set ?_ GE292.out | refine below_set ?_ GE300.out | refine below_set ?_ GE308.out) | exact HB.out)⟩⟩
                                · rw [if_neg c77] at H
                                  have c77b0 : (Op.bytesLess (((rd_T34 t296 (ji74)).f0).toList) (((rd_T34 t296 x12_4).f0).toList)) = false := by simpa using c77
                                  clear c77
                                  obtain rfl := Option.some.inj H
                                  have hnb82 := NB300_292.out
                                  have hnc82 := NB292_300.out
                                  have hnb83 := NB300_308.out
                                  have hnc83 := NB308_300.out
                                  have hcz84_0 : wr.cell? ⟨gb300, 0, none⟩ = some (.string t294) := (blk_cell BK300.out 0).trans rfl
                                  have hcz84_1 : wr.cell? ⟨gb300, 1, none⟩ = some (.string t295) := (blk_cell BK300.out 1).trans rfl
                                  have hcz84_2 : wr.cell? ⟨gb300, 2, none⟩ = some (.slice Ao12 t296.length co12) := (blk_cell BK300.out 2).trans rfl
                                  have hfz84_0 := blk_frozen BK300.out 0
                                  have hfz84_1 := blk_frozen BK300.out 1
                                  have hfz84_2 := blk_frozen BK300.out 2
                                  try go_wp2
                                  have n0_ := Aside0.mk (Kd.R_drew HO_301002.out)
                                  have n1_ := Aside0.mk (Kd.R_drew HO_309002.out)
                                  have n2_ := Aside0.mk (blk_drew BK292.out)
                                  have n3_ := Aside0.mk (blk_drew BK300.out)
                                  have n4_ := Aside0.mk (blk_drew BK308.out)
                                  have n5_ := Aside0.mk (below_drew1 HB.out)
                                  clear HO_301002
                                  clear HO_309002
                                  clear BK292
                                  clear BK300
                                  clear BK308
                                  clear HB
                                  have HO_301002 := n0_
                                  have HO_309002 := n1_
                                  have BK292 := n2_
                                  have BK300 := n3_
                                  have BK308 := n4_
                                  have HB := n5_
                                  clear n0_ n1_ n2_ n3_ n4_ n5_
                                  have p314 : 0 ≤ (x12_4 : Int) := of_decide_eq_true (by first | (with_reducible assumption) | assumption)
                                  have q314 : x12_4 < (t296.length : Int) := of_decide_eq_true (by first | (with_reducible assumption) | assumption)
                                  obtain ⟨ad314, e314, hx314_0, hx314_1⟩ := at_T34 (Kd.R_reads' HO_301002.out).2.2 x12_4 p314 q314
                                  cases e314
                                  replace p314 := eq_true p314
                                  replace q314 := eq_true q314
                                  have p315 : 0 ≤ ((ji74) : Int) := of_decide_eq_true (by first | (with_reducible assumption) | assumption)
                                  have q315 : (ji74) < (t296.length : Int) := of_decide_eq_true (by first | (with_reducible assumption) | assumption)
                                  obtain ⟨ad315, e315, hx315_0, hx315_1⟩ := at_T34 (Kd.R_reads' HO_301002.out).2.2 (ji74) p315 q315
                                  obtain rfl : ad314 = ad315 := (by injection e315)
                                  replace p315 := eq_true p315
                                  replace q315 := eq_true q315
                                  refine start_ (n := 14) (S := fun w' => w'.cell? ⟨gb300, 0, none⟩ = some (.string t294) ∧ w'.cell? ⟨gb300, 1, none⟩ = some (.string t295) ∧ w'.cell? ⟨gb300, 2, none⟩ = some (.slice (some ad314) t296.length co12) ∧ w'.cell? (ad314.add ((x12_4).toNat * 2)) = some (.string ((rd_T34 t296 x12_4).f0)) ∧ w'.cell? ⟨(ad314.add ((x12_4).toNat * 2)).block, (ad314.add ((x12_4).toNat * 2)).off + 1, none⟩ = some (.string ((rd_T34 t296 x12_4).f1)) ∧ w'.cell? (ad314.add (((ji74)).toNat * 2)) = some (.string ((rd_T34 t296 (ji74)).f0)) ∧ w'.cell? ⟨(ad314.add (((ji74)).toNat * 2)).block, (ad314.add (((ji74)).toNat * 2)).off + 1, none⟩ = some (.string ((rd_T34 t296 (ji74)).f1))) (ds := []) #[false, false, false, false, false, false, false, false, false, false, false, false, false, false] (by kernel_rfl) rfl rfl ⟨(blk_cell BK300.out 0).trans rfl, (blk_cell BK300.out 1).trans rfl, (blk_cell BK300.out 2).trans rfl, hx314_0, hx314_1, hx315_0, hx315_1⟩ (fun hHeld => ?_); refine with_tabW majordomolaw06_ResourceFull.tab18 majordomolaw06_ResourceFull.bits18 (fun HT_ HW_ => ?_)
                                  generalize wr.drew = w85 at HO_301002 HO_309002 BK292 BK300 BK308 HB hx314_0 hx314_1 hx315_0 hx315_1 hHeld ⊢
                                  refine pure_ (i := 0) (N := some 97) (v := ?_) (a' := ?_) #[true, false, false, false, false, false, false, false, false, false, false, false, false, false] rfl rfl (any_of HT_.out (by kernel_rfl)) (fun _ _ _ h => h) (Or.inl ⟨by rfl, ?_⟩) ?_ ?_
                                  rotate_left
                                  · intro w'
                                    go_simp
                                    with_reducible rfl
                                  rotate_left
                                  · simp only [Act.put, List.setIfInBounds_toArray, List.set_cons_zero, List.set_cons_succ, i64_w, i32_w]
                                    rfl
                                  refine pure_ (i := 2) (N := some 99) (v := ?_) (a' := ?_) #[true, false, true, false, false, false, false, false, false, false, false, false, false, false] rfl rfl (any_of HT_.out (by kernel_rfl)) (fun _ _ _ h => h) (Or.inl ⟨by rfl, ?_⟩) ?_ ?_
                                  rotate_left
                                  · intro w'
                                    go_simp
                                    with_reducible rfl
                                  rotate_left
                                  · simp only [Act.put, List.setIfInBounds_toArray, List.set_cons_zero, List.set_cons_succ, i64_w, i32_w]
                                    rfl
                                  refine pure_ (i := 6) (N := some 103) (v := ?_) (a' := ?_) #[true, false, true, false, false, false, true, false, false, false, false, false, false, false] rfl rfl (any_of HT_.out (by kernel_rfl)) (fun _ _ _ h => h) (Or.inl ⟨by rfl, ?_⟩) ?_ ?_
                                  rotate_left
                                  · intro w'
                                    go_simp
                                    with_reducible rfl
                                  rotate_left
                                  · simp only [Act.put, List.setIfInBounds_toArray, List.set_cons_zero, List.set_cons_succ, i64_w, i32_w]
                                    rfl
                                  refine pure_ (i := 8) (N := some 105) (v := ?_) (a' := ?_) #[true, false, true, false, false, false, true, false, true, false, false, false, false, false] rfl rfl (any_of HT_.out (by kernel_rfl)) (fun _ _ _ h => h) (Or.inl ⟨by rfl, ?_⟩) ?_ ?_
                                  rotate_left
                                  · intro w'
                                    go_simp
                                    with_reducible rfl
                                  rotate_left
                                  · simp only [Act.put, List.setIfInBounds_toArray, List.set_cons_zero, List.set_cons_succ, i64_w, i32_w]
                                    rfl
                                  refine pure_ (i := 9) (N := some 106) (v := ?_) (a' := ?_) #[true, false, true, false, false, false, true, false, true, true, false, false, false, false] rfl rfl (any_of HT_.out (by kernel_rfl)) (fun _ _ _ h => h) (Or.inl ⟨by rfl, ?_⟩) ?_ ?_
                                  rotate_left
                                  · intro w'
                                    go_simp
                                    with_reducible rfl
                                  rotate_left
                                  · simp only [Act.put, List.setIfInBounds_toArray, List.set_cons_zero, List.set_cons_succ, i64_w, i32_w]
                                    rfl
                                  refine take_ (i := 1) (N := some 98) (v := ?_) (a' := ?_) #[true, true, true, false, false, false, true, false, true, true, false, false, false, false] rfl rfl (take_ofW HT_.out HW_.out (by kernel_rfl)) (fun _ _ _ h => h) (Or.inl ⟨by rfl, ?_⟩) hHeld ?_ ?_
                                  rotate_left
                                  · rintro w' ⟨s0, s1, s2, s3, s4, s5, s6⟩
                                    go_simp
                                    with_reducible rfl
                                  rotate_left
                                  · simp only [Act.put, List.setIfInBounds_toArray, List.set_cons_zero, List.set_cons_succ, i64_w, i32_w]
                                    rfl
                                  refine pure_ (i := 3) (N := some 100) (v := ?_) (a' := ?_) #[true, true, true, true, false, false, true, false, true, true, false, false, false, false] rfl rfl (any_of HT_.out (by kernel_rfl)) (fun _ _ _ h => h) (Or.inl ⟨by rfl, ?_⟩) ?_ ?_
                                  rotate_left
                                  · intro w'
                                    go_simp
                                    with_reducible rfl
                                  rotate_left
                                  · simp only [Act.put, List.setIfInBounds_toArray, List.set_cons_zero, List.set_cons_succ, i64_w, i32_w]
                                    rfl
                                  refine pure_ (i := 4) (N := some 101) (v := ?_) (a' := ?_) #[true, true, true, true, true, false, true, false, true, true, false, false, false, false] rfl rfl (any_of HT_.out (by kernel_rfl)) (fun _ _ _ h => h) (Or.inl ⟨by rfl, ?_⟩) ?_ ?_
                                  rotate_left
                                  · intro w'
                                    go_simp
                                    with_reducible rfl
                                  rotate_left
                                  · simp only [Act.put, List.setIfInBounds_toArray, List.set_cons_zero, List.set_cons_succ, i64_w, i32_w]
                                    rfl
                                  refine take_ (i := 5) (N := some 102) (v := ?_) (a' := ?_) #[true, true, true, true, true, true, true, false, true, true, false, false, false, false] rfl rfl (take_ofW HT_.out HW_.out (by kernel_rfl)) (fun _ _ _ h => h) (Or.inl ⟨by rfl, ?_⟩) hHeld ?_ ?_
                                  rotate_left
                                  · rintro w' ⟨s0, s1, s2, s3, s4, s5, s6⟩
                                    go_simp
                                    with_reducible rfl
                                  rotate_left
                                  · simp only [Act.put, List.setIfInBounds_toArray, List.set_cons_zero, List.set_cons_succ, i64_w, i32_w]
                                    rfl
                                  refine take_ (i := 7) (N := some 104) (v := ?_) (a' := ?_) #[true, true, true, true, true, true, true, true, true, true, false, false, false, false] rfl rfl (take_ofW HT_.out HW_.out (by kernel_rfl)) (fun _ _ _ h => h) (Or.inl ⟨by rfl, ?_⟩) hHeld ?_ ?_
                                  rotate_left
                                  · rintro w' ⟨s0, s1, s2, s3, s4, s5, s6⟩
                                    go_simp
                                    with_reducible rfl
                                  rotate_left
                                  · simp only [Act.put, List.setIfInBounds_toArray, List.set_cons_zero, List.set_cons_succ, i64_w, i32_w]
                                    rfl
                                  refine pure_ (i := 10) (N := some 107) (v := ?_) (a' := ?_) #[true, true, true, true, true, true, true, true, true, true, true, false, false, false] rfl rfl (any_of HT_.out (by kernel_rfl)) (fun _ _ _ h => h) (Or.inl ⟨by rfl, ?_⟩) ?_ ?_
                                  rotate_left
                                  · intro w'
                                    go_simp
                                    with_reducible rfl
                                  rotate_left
                                  · simp only [Act.put, List.setIfInBounds_toArray, List.set_cons_zero, List.set_cons_succ, i64_w, i32_w]
                                    rfl
                                  refine pure_ (i := 11) (N := some 108) (v := ?_) (a' := ?_) #[true, true, true, true, true, true, true, true, true, true, true, true, false, false] rfl rfl (any_of HT_.out (by kernel_rfl)) (fun _ _ _ h => h) (Or.inl ⟨by rfl, ?_⟩) ?_ ?_
                                  rotate_left
                                  · intro w'
                                    go_simp
                                    with_reducible rfl
                                  rotate_left
                                  · simp only [Act.put, List.setIfInBounds_toArray, List.set_cons_zero, List.set_cons_succ, i64_w, i32_w]
                                    rfl
                                  refine take_ (i := 12) (N := some 109) (v := ?_) (a' := ?_) #[true, true, true, true, true, true, true, true, true, true, true, true, true, false] rfl rfl (take_ofW HT_.out HW_.out (by kernel_rfl)) (fun _ _ _ h => h) (Or.inl ⟨by rfl, ?_⟩) hHeld ?_ ?_
                                  rotate_left
                                  · rintro w' ⟨s0, s1, s2, s3, s4, s5, s6⟩
                                    go_simp
                                    with_reducible rfl
                                  rotate_left
                                  · simp only [Act.put, List.setIfInBounds_toArray, List.set_cons_zero, List.set_cons_succ, i64_w, i32_w]
                                    rfl
                                  refine pure_ (i := 13) (N := some 110) (v := ?_) (a' := ?_) #[true, true, true, true, true, true, true, true, true, true, true, true, true, true] rfl rfl (any_of HT_.out (by kernel_rfl)) (fun _ _ _ h => h) (Or.inl ⟨by rfl, ?_⟩) ?_ ?_
                                  rotate_left
                                  · intro w'
                                    go_simp
                                    with_reducible rfl
                                  rotate_left
                                  · simp only [Act.put, List.setIfInBounds_toArray, List.set_cons_zero, List.set_cons_succ, i64_w, i32_w]
                                    rfl
                                  refine done_ (done_of HT_.out (by kernel_rfl)) ?_
                                  try go_wp2
                                  go_ret
                                  exact ⟨by first | rfl | (simp [errW_none, errW_some] <;> rfl) | (simp only [← hji74]; first | rfl | (simp [errW_none, errW_some] <;> rfl)) | (simp [*, errW_none, errW_some] <;> rfl), by repeat (first | (with_reducible first | exact HB.out | apply below_alloc | apply pw_below_drewN | apply below_drew1 | refine below_set ?_ GE292.out | refine below_set ?_ GE300.out | refine below_set ?_ GE308.out) | exact HB.out)⟩
                              · rw [if_neg c76] at H
                                exact absurd H (by simp)
                            · rw [if_neg c75] at H
                              exact absurd H (by simp)
                          · rw [if_neg c73] at H
                            exact absurd H (by simp)
                        · rw [if_neg c72] at H
                          have c72b0 : decide (x12_4 < (t296.length : Int)) = false := decide_eq_false c72
                          clear c72
                          obtain rfl := Option.some.inj H
                          have hnb86 := NB300_292.out
                          have hnc86 := NB292_300.out
                          have hnb87 := NB300_308.out
                          have hnc87 := NB308_300.out
                          have hcz88_0 : wr.cell? ⟨gb300, 0, none⟩ = some (.string t294) := (blk_cell BK300.out 0).trans rfl
                          have hcz88_1 : wr.cell? ⟨gb300, 1, none⟩ = some (.string t295) := (blk_cell BK300.out 1).trans rfl
                          have hcz88_2 : wr.cell? ⟨gb300, 2, none⟩ = some (.slice Ao12 t296.length co12) := (blk_cell BK300.out 2).trans rfl
                          have hfz88_0 := blk_frozen BK300.out 0
                          have hfz88_1 := blk_frozen BK300.out 1
                          have hfz88_2 := blk_frozen BK300.out 2
                          go_wp2
                          go_ret
                          exact ⟨by first | rfl | (simp [errW_none, errW_some] <;> rfl) | (simp [*, errW_none, errW_some] <;> rfl), by repeat (first | (with_reducible first | exact HB.out | apply below_alloc | apply pw_below_drewN | apply below_drew1 | refine below_set ?_ GE292.out | refine below_set ?_ GE300.out | refine below_set ?_ GE308.out) | exact HB.out)⟩
end Go.Proofs.YtkgafkoopefghaaDoor.PA
end
