/- A part of this law; its conditions stand in the last text. -/
import Derived.Test.YtkgafkoopefghaaDoorRn6
import Derived.Test.YtkgafkoopefghaaDoorRn5
section
namespace Go.Proofs.YtkgafkoopefghaaDoor.PA
open Go.RowKit Go.Proofs.YtkgafkoopefghaaDoorW.PrintWords Go.Proofs.YtkgafkoopefghaaDoorW.PrintLast Go.Proofs.YtkgafkoopefghaaDoorW.PrintMore
attribute [local go_sem] max2_int min2_int max_two min_two max_three min_three max_four min_four
set_option linter.unusedVariables false
set_option linter.unusedSimpArgs false
theorem eqA34 (d : Nat) (w : World) (x0 y0 : ByteArray) (x1 y1 : ByteArray) :
 (Op.equalIn (d + 2) 34 (.agg #[.string x0, .string x1]) (.agg #[.string y0, .string y1])).run Tryd.prog w = .ok (x0.toList == y0.toList && (x1.toList == y1.toList)) w := by
 refine eqA_of Tryd.underlying34 (by kernel_rfl) ?_
 refine eqf_cons (by rfl) (by go_simp; rfl) (by go_simp; rfl) (by go_simp) ?_
 exact eqf_last (by rfl) (by go_simp; rfl) (by go_simp; rfl) (by go_simp)
end Go.Proofs.YtkgafkoopefghaaDoor.PA
end
section
namespace Go.Proofs.YtkgafkoopefghaaDoor.PA
open Go.RowKit Go.Proofs.YtkgafkoopefghaaDoorW.PrintWords Go.Proofs.YtkgafkoopefghaaDoorW.PrintLast Go.Proofs.YtkgafkoopefghaaDoorW.PrintMore
open Go.Proofs.YtkgafkoopefghaaDoor.Hk
attribute [local go_sem high] Go.Proofs.YtkgafkoopefghaaDoor.Hk.binOp_leq_not
attribute [local go_sem] max2_int min2_int max_two min_two max_three min_three max_four min_four
set_option linter.unusedVariables false
set_option linter.unusedSimpArgs false
attribute [local go_sem high] eqA34
def stringslite_HasPrefix.f (a0 : ByteArray) (a1 : ByteArray) : Option (Bool) := if (a0.size : Int) ≥ (a1.size : Int) then (if 0 ≤ (a1.size : Int) then (if (a1.size : Int) ≤ (a0.size : Int) then (some ((a0.extract 0 ((a1.size : Int) : Int).toNat).toList == a1.toList)) else (none)) else (none)) else (some false)
set_option maxHeartbeats 8000000 in
set_option maxRecDepth 100000 in
theorem stringslite_HasPrefix.calls (a0 : ByteArray) (a1 : ByteArray) (r : Bool) (w : World) (h : stringslite_HasPrefix.f a0 a1 = some r) :
 Calls Tryd.prog 72 #[.string a0, .string a1] w fun e w' => e = .returned (.bool r) ∧ Drawn0 w w' := by
 have H : (if (a0.size : Int) ≥ (a1.size : Int) then (if 0 ≤ (a1.size : Int) then (if (a1.size : Int) ≤ (a0.size : Int) then (some ((a0.extract 0 ((a1.size : Int) : Int).toNat).toList == a1.toList)) else (none)) else (none)) else (some false)) = some r := h
 clear h
 by_cases c3 : (a0.size : Int) ≥ (a1.size : Int)
 rotate_left
 · rw [if_neg c3] at H
   have c3b0 : decide ((a1.size : Int) ≤ (a0.size : Int)) = false := decide_eq_false c3
   have c3b1 : decide (a1.size ≤ a0.size) = false := decide_eq_false (fun h => c3 (Int.ofNat_le.mpr h))
   clear c3
   obtain rfl := Option.some.inj H
   go_enter Tryd.func72, Tryd.ntmps72
   go_wp2
   go_ret
   exact ⟨by first | rfl | (simp; done) | (simp [*]; done), by repeat (first | exact Drawn0.refl _ | apply Drawn0.step)⟩
 rw [if_pos c3] at H
 have c3b0 : decide ((a1.size : Int) ≤ (a0.size : Int)) = true := decide_eq_true c3
 have c3b1 : decide (a1.size ≤ a0.size) = true := decide_eq_true (Int.ofNat_le.mp c3)
 clear c3
 by_cases c4 : 0 ≤ (a1.size : Int)
 rotate_left
 · rw [if_neg c4] at H
   exact absurd H (by simp)
 rw [if_pos c4] at H
 have c4b0 := eq_true c4
 have c4b1 : decide (0 ≤ (a1.size : Int)) = true := decide_eq_true c4
 clear c4
 by_cases c5 : (a1.size : Int) ≤ (a0.size : Int)
 rotate_left
 · rw [if_neg c5] at H
   exact absurd H (by simp)
 rw [if_pos c5] at H
 have c5b0 := eq_true c5
 have c5b1 : decide ((a1.size : Int) ≤ (a0.size : Int)) = true := decide_eq_true c5
 clear c5
 obtain rfl := Option.some.inj H
 go_enter Tryd.func72, Tryd.ntmps72
 go_wp2
 go_ret
 exact ⟨by first | rfl | (simp; done) | (simp [*]; done), by repeat (first | exact Drawn0.refl _ | apply Drawn0.step)⟩
def stringslite_CutPrefix.f (a0 : ByteArray) (a1 : ByteArray) : Option (ByteArray × Bool) := (stringslite_HasPrefix.f a0 a1).bind fun t119 => (if t119 = true then (if 0 ≤ (a1.size : Int) then (if (a1.size : Int) ≤ (a0.size : Int) then (some (a0.extract ((a1.size : Int) : Int).toNat a0.size, true)) else (none)) else (none)) else (some (a0, false)))
set_option maxHeartbeats 8000000 in
set_option maxRecDepth 100000 in
theorem stringslite_CutPrefix.calls (a0 : ByteArray) (a1 : ByteArray) (r1 : ByteArray) (r2 : Bool) (w : World) (h : stringslite_CutPrefix.f a0 a1 = some (r1, r2)) :
 Calls Tryd.prog 54 #[.string a0, .string a1] w fun e w' => e = .returned (.tuple #[.string r1, .bool r2]) ∧ Drawn0 w w' := by
 have H : ((stringslite_HasPrefix.f a0 a1).bind fun t119 => (if t119 = true then (if 0 ≤ (a1.size : Int) then (if (a1.size : Int) ≤ (a0.size : Int) then (some (a0.extract ((a1.size : Int) : Int).toNat a0.size, true)) else (none)) else (none)) else (some (a0, false)))) = some (r1, r2) := h
 clear h
 replace H := Option.bind_eq_some_iff.mp H
 obtain ⟨t119, A30, H⟩ := H
 replace H : (if t119 = true then (if 0 ≤ (a1.size : Int) then (if (a1.size : Int) ≤ (a0.size : Int) then (some (a0.extract ((a1.size : Int) : Int).toNat a0.size, true)) else (none)) else (none)) else (some (a0, false))) = some (r1, r2) := H
 have A3 := As.mk A30
 clear A30
 by_cases c4 : t119 = true
 rotate_left
 · replace c4 := Bool.eq_false_iff.mpr c4
   subst c4
   have H1 : (some (a0, false)) = some (r1, r2) := by rw [if_neg (show ¬ (false = true) by decide)] at H; exact H
   clear H
   have H := H1
   clear H1
   simp only [Option.some.injEq, Prod.mk.injEq] at H
   obtain ⟨rfl, rfl⟩ := H
   go_enter Tryd.func54, Tryd.ntmps54
   go_wp2_with (first | ((with_reducible refine gate_callee (f := 72) rfl ?_); refine goesL_ (some 8) rfl rfl Tryd.func72 (by kernel_rfl) rfl #[.string a0, .string a1] rfl (by (try simp only [List.map_toArray, List.map_cons, List.map_nil]); first | done | rfl | (simp only [List.length_drop, List.length_take]; rfl)) ?_; (with_reducible refine (stringslite_HasPrefix.calls a0 a1 false _ A3.out).mono ?_); rintro e w' ⟨rfl, ⟨nd, rfl⟩⟩; refine ⟨_, rfl, ?_⟩))
   go_ret2
   exact ⟨by first | rfl | (simp; done) | (simp [*]; done), by repeat (first | exact Drawn0.refl _ | apply Drawn0.step)⟩
 subst c4
 have H1 : (if 0 ≤ (a1.size : Int) then (if (a1.size : Int) ≤ (a0.size : Int) then (some (a0.extract ((a1.size : Int) : Int).toNat a0.size, true)) else (none)) else (none)) = some (r1, r2) := by rw [if_pos rfl] at H; exact H
 clear H
 have H := H1
 clear H1
 by_cases c5 : 0 ≤ (a1.size : Int)
 rotate_left
 · rw [if_neg c5] at H
   exact absurd H (by simp)
 rw [if_pos c5] at H
 have c5b0 := eq_true c5
 have c5b1 : decide (0 ≤ (a1.size : Int)) = true := decide_eq_true c5
 clear c5
 by_cases c6 : (a1.size : Int) ≤ (a0.size : Int)
 rotate_left
 · rw [if_neg c6] at H
   exact absurd H (by simp)
 rw [if_pos c6] at H
 have c6b0 := eq_true c6
 have c6b1 : decide ((a1.size : Int) ≤ (a0.size : Int)) = true := decide_eq_true c6
 clear c6
 simp only [Option.some.injEq, Prod.mk.injEq] at H
 obtain ⟨rfl, rfl⟩ := H
 go_enter Tryd.func54, Tryd.ntmps54
 go_wp2_with (first | ((with_reducible refine gate_callee (f := 72) rfl ?_); refine goesL_ (some 8) rfl rfl Tryd.func72 (by kernel_rfl) rfl #[.string a0, .string a1] rfl (by (try simp only [List.map_toArray, List.map_cons, List.map_nil]); first | done | rfl | (simp only [List.length_drop, List.length_take]; rfl)) ?_; (with_reducible refine (stringslite_HasPrefix.calls a0 a1 true _ A3.out).mono ?_); rintro e w' ⟨rfl, ⟨nd, rfl⟩⟩; refine ⟨_, rfl, ?_⟩))
 go_ret2
 exact ⟨by first | rfl | (simp; done) | (simp [*]; done), by repeat (first | exact Drawn0.refl _ | apply Drawn0.step)⟩
def strings_CutPrefix.f (a0 : ByteArray) (a1 : ByteArray) : Option (ByteArray × Bool) := (stringslite_CutPrefix.f a0 a1).bind fun bt120 => (some (bt120.1, bt120.2))
set_option maxHeartbeats 8000000 in
set_option maxRecDepth 100000 in
theorem strings_CutPrefix.calls (a0 : ByteArray) (a1 : ByteArray) (r1 : ByteArray) (r2 : Bool) (w : World) (h : strings_CutPrefix.f a0 a1 = some (r1, r2)) :
 Calls Tryd.prog 41 #[.string a0, .string a1] w fun e w' => e = .returned (.tuple #[.string r1, .bool r2]) ∧ Drawn0 w w' := by
 have H : ((stringslite_CutPrefix.f a0 a1).bind fun bt120 => (some (bt120.1, bt120.2))) = some (r1, r2) := h
 clear h
 replace H := Option.bind_eq_some_iff.mp H
 obtain ⟨⟨t120, t121⟩, A30, H⟩ := H
 replace H : (some (t120, t121)) = some (r1, r2) := H
 have A3 := As.mk A30
 clear A30
 simp only [Option.some.injEq, Prod.mk.injEq] at H
 obtain ⟨rfl, rfl⟩ := H
 go_enter Tryd.func41, Tryd.ntmps41
 go_wp2_with (first | ((with_reducible refine gate_callee (f := 54) rfl ?_); refine goesL_ (some 8) rfl rfl Tryd.func54 (by kernel_rfl) rfl #[.string a0, .string a1] rfl (by (try simp only [List.map_toArray, List.map_cons, List.map_nil]); first | done | rfl | (simp only [List.length_drop, List.length_take]; rfl)) ?_; (with_reducible refine (stringslite_CutPrefix.calls a0 a1 t120 t121 _ A3.out).mono ?_); rintro e w' ⟨rfl, ⟨nd, rfl⟩⟩; refine ⟨_, rfl, ?_⟩))
 go_ret2
 exact ⟨by first | rfl | (simp; done) | (simp [*]; done), by repeat (first | exact Drawn0.refl _ | apply Drawn0.step)⟩
def resource_Get.l0 : Nat → ByteArray → List (S34) → Int → Int → Option (ByteArray × Bool)
 | 0, _, _, _, _ => none
 | k + 1, x1, x9, x10, x11 => if x11 < x10 then (if 0 ≤ x11 then (if x11 < (x9.length : Int) then (if ((rd_T34 x9 x11).f0).toList = x1.toList then (some ((rd_T34 x9 x11).f1, true)) else (resource_Get.l0 k x1 x9 x10 (wrap64 (x11 + 1)))) else (none)) else (none)) else (some ((⟨#[]⟩ : ByteArray), false))
def resource_Get.f (k : Nat) (a0_0 : ByteArray) (a0_1 : ByteArray) (l0_2 : List (S34)) (a1 : ByteArray) : Option (ByteArray × Bool) := resource_Get.l0 k a1 l0_2 (l0_2.length : Int) 0
set_option maxHeartbeats 8000000 in
set_option maxRecDepth 100000 in
theorem resource_Get.calls (k : Nat) (a0_0 : ByteArray) (a0_1 : ByteArray) (A0_2 : Option Addr) (c0_2 : Nat) (l0_2 : List (S34)) (a1 : ByteArray) (r1 : ByteArray) (r2 : Bool) (w : World) (hr0_2 : Kd.C k34 w A0_2 l0_2.length l0_2) (hc0_2 : l0_2.length ≤ c0_2) (h : resource_Get.f k a0_0 a0_1 l0_2 a1 = some (r1, r2)) :
 Calls Tryd.prog 11 #[.agg #[.string a0_0, .string a0_1, .slice A0_2 l0_2.length c0_2], .string a1] w fun e w' => e = .returned (.tuple #[.string r1, .bool r2]) ∧ Below w.heap.size w w' := by
 have hu24 := Tryd.underlying24
 have hu34 := Tryd.underlying34
 have HR0_2 := As.mk hr0_2
 have HC0_2 := As.mk hc0_2
 clear hr0_2 hc0_2
 have HB := As.mk (Below.refl w.heap.size w)
 have H : (resource_Get.l0 k a1 l0_2 (l0_2.length : Int) 0) = some (r1, r2) := h
 clear h
 have H' := As.mk H
 clear H
 go_enter Tryd.func11, Tryd.ntmps11
 go_wp2_with (first | ((with_reducible refine gate_dst (N := 2) rfl ?_); refine box_event ?hg (N := 2) ?hd (cs := #[.string a0_0, .string a0_1, .slice A0_2 l0_2.length c0_2]) (t := 24) ?hr ?_; (case hd => rfl); (case hg => rfl); (case hr => first | (go_simp; done) | (go_simp; rfl)); intro gb137 hg w3 hbox hb; have n0_ := As.mk (bT (by repeat (first | (with_reducible first | exact HB.out | apply bA | apply bN | apply bD) | exact HB.out)) hb); have n1_ := As.mk (hbox); have n2_ := As.mk ((by rw [hg]; exact (bZ (by repeat (first | (with_reducible first | exact HB.out | apply bA | apply bN | apply bD) | exact HB.out))) : w.heap.size ≤ gb137)); have n3_ := As.mk ((by rw [hg]; exact (bZ (by repeat (first | (with_reducible first | exact HB.out | apply bA | apply bN | apply bD) | exact HB.out))) : w.heap.size ≤ gb137)); clear HB; have HB := n0_; have BK137 := n1_; have GW137 := n2_; have GE137 := n3_; clear n0_ n1_ n2_ n3_; clear hb hbox hg; have hcz4_0 : w3.cell? ⟨gb137, 0, none⟩ = some (.string a0_0) := (kC BK137.out 0).trans rfl; have hcz4_1 : w3.cell? ⟨gb137, 1, none⟩ = some (.string a0_1) := (kC BK137.out 1).trans rfl; have hcz4_2 : w3.cell? ⟨gb137, 2, none⟩ = some (.slice A0_2 l0_2.length c0_2) := (kC BK137.out 2).trans rfl; have hfz4_0 := kF BK137.out 0; have hfz4_1 := kF BK137.out 1; have hfz4_2 := kF BK137.out 2))
 go_loopg [11] k (fun kq v11 w' => ∃ (x11_1 : Int), v11 = .int .i64 x11_1 ∧ As (resource_Get.l0 kq a1 l0_2 (l0_2.length : Int) x11_1 = some (r1, r2)) ∧ As (kq ≤ k) ∧ As (w'.heap[gb137]? = some (.cells #[.string a0_0, .string a0_1, (.slice A0_2 l0_2.length c0_2)] 24 (0, 0))) ∧ As (Below w.heap.size w w'))
 case atStart => exact ⟨(0), (by first | rfl | (simp; done) | (simp [*]; done)), H', ⟨Nat.le_refl _⟩, ⟨by (with_reducible repeat (first | refine kN ?_ _ | refine kD ?_ | refine kA ?_ _)); exact BK137.out⟩, ⟨by repeat (first | (with_reducible first | exact HB.out | apply bA | apply bN | apply bD | refine bS ?_ GE137.out) | exact HB.out)⟩⟩
 case round =>
  clear H'
  try clear c1
  try clear p2
  try clear hcz4_0
  try clear hcz4_1
  try clear hcz4_2
  try clear hfz4_0
  try clear hfz4_1
  try clear hfz4_2
  obtain ⟨x11_1, rfl, HA, HK1, BK137, HB⟩ := hrel
  cases gk with
  | zero => exact absurd HA.out (by simp [resource_Get.l0])
  | succ k1 =>
   have H := HA.out
   clear HA
   simp only [resource_Get.l0] at H
   by_cases c5 : x11_1 < (l0_2.length : Int)
   rotate_left
   · rw [if_neg c5] at H
     have c5b0 : decide (x11_1 < (l0_2.length : Int)) = false := decide_eq_false c5
     clear c5
     simp only [Option.some.injEq, Prod.mk.injEq] at H
     obtain ⟨rfl, rfl⟩ := H
     go_wp2
     go_ret2
     exact ⟨by first | rfl | (simp [errW_none, errW_some] <;> rfl) | (simp [*, errW_none, errW_some] <;> rfl), by repeat (first | (with_reducible first | exact HB.out | apply bA | apply bN | apply bD | refine bS ?_ GE137.out) | exact HB.out)⟩
   rw [if_pos c5] at H
   have c5b0 : decide (x11_1 < (l0_2.length : Int)) = true := decide_eq_true c5
   clear c5
   by_cases c6 : 0 ≤ x11_1
   rotate_left
   · rw [if_neg c6] at H
     exact absurd H (by simp)
   rw [if_pos c6] at H
   have c6b0 : decide (0 ≤ x11_1) = true := decide_eq_true c6
   clear c6
   by_cases c7 : x11_1 < (l0_2.length : Int)
   rotate_left
   · rw [if_neg c7] at H
     exact absurd H (by simp)
   rw [if_pos c7] at H
   have c7b0 : decide (x11_1 < (l0_2.length : Int)) = true := decide_eq_true c7
   clear c7
   by_cases c8 : ((rd_T34 l0_2 x11_1).f0).toList = a1.toList
   · rw [if_pos c8] at H
     have c8b0 : (((rd_T34 l0_2 x11_1).f0).toList == a1.toList) = true := beq_iff_eq.mpr c8
     have c8b1 : (((rd_T34 l0_2 x11_1).f0).toList != a1.toList) = false := bne_eq_false_iff_eq.mpr c8
     clear c8
     simp only [Option.some.injEq, Prod.mk.injEq] at H
     obtain ⟨rfl, rfl⟩ := H
     have p138 : 0 ≤ (x11_1 : Int) := of_decide_eq_true (by first | (with_reducible assumption) | assumption)
     have q138 : x11_1 < (l0_2.length : Int) := of_decide_eq_true (by first | (with_reducible assumption) | assumption)
     obtain ⟨ad138, e138, hx138_0, hx138_1⟩ := at_T34 HR0_2.out x11_1 p138 q138
     cases e138
     replace hx138_0 := (HB.out.cell (World.block_lt_of_cell? w _ hx138_0)).trans hx138_0
     replace hx138_1 := (HB.out.cell (World.block_lt_of_cell? w _ hx138_1)).trans hx138_1
     replace p138 := eq_true p138
     replace q138 := eq_true q138
     go_wp2_with (first | ((with_reducible refine gate_dst (N := 7) rfl ?_); refine box_event ?hg (N := 7) ?hd (cs := #[.string (⟨#[]⟩ : ByteArray), .string (⟨#[]⟩ : ByteArray)]) (t := 34) ?hr ?_; (case hd => rfl); (case hg => rfl); (case hr => first | (go_simp; done) | (go_simp; rfl)); intro gb139 hg w9 hbox hb; have n0_ := As.mk (kB (g := gb137) (o := .cells #[.string a0_0, .string a0_1, .slice (some ad138) l0_2.length c0_2] 24 (0, 0)) (by (with_reducible repeat (first | refine kN ?_ _ | refine kD ?_ | refine kA ?_ _)); exact BK137.out) hb); have n1_ := As.mk (bT (by repeat (first | (with_reducible first | exact HB.out | apply bA | apply bN | apply bD | refine bS ?_ GE137.out) | exact HB.out)) hb); have n2_ := As.mk (hbox); have n3_ := As.mk ((by rw [hg]; exact (bZ (by repeat (first | (with_reducible first | exact HB.out | apply bA | apply bN | apply bD | refine bS ?_ GE137.out) | exact HB.out))) : w.heap.size ≤ gb139)); have n4_ := As.mk ((by rw [hg]; exact (bZ (by repeat (first | (with_reducible first | exact HB.out | apply bA | apply bN | apply bD | refine bS ?_ GE137.out) | exact HB.out))) : w.heap.size ≤ gb139)); have n5_ := As.mk ((by rw [hg]; exact Nat.ne_of_lt (blk_lt (g := gb137) (o := .cells #[.string a0_0, .string a0_1, .slice (some ad138) l0_2.length c0_2] 24 (0, 0)) (by (with_reducible repeat (first | refine kN ?_ _ | refine kD ?_ | refine kA ?_ _)); exact BK137.out)) : gb137 ≠ gb139)); have n6_ := As.mk ((by rw [hg]; exact Nat.ne_of_gt (blk_lt (g := gb137) (o := .cells #[.string a0_0, .string a0_1, .slice (some ad138) l0_2.length c0_2] 24 (0, 0)) (by (with_reducible repeat (first | refine kN ?_ _ | refine kD ?_ | refine kA ?_ _)); exact BK137.out)) : gb139 ≠ gb137)); clear BK137; clear HB; have BK137 := n0_; have HB := n1_; have BK139 := n2_; have GW139 := n3_; have GE139 := n4_; have NB137_139 := n5_; have NB139_137 := n6_; clear n0_ n1_ n2_ n3_ n4_ n5_ n6_; clear hb hbox hg; have hnb10 := NB139_137.out; have hnc10 := NB137_139.out; have hcz11_0 : w9.cell? ⟨gb139, 0, none⟩ = some (.string (⟨#[]⟩ : ByteArray)) := (kC BK139.out 0).trans rfl; have hcz11_1 : w9.cell? ⟨gb139, 1, none⟩ = some (.string (⟨#[]⟩ : ByteArray)) := (kC BK139.out 1).trans rfl; have hfz11_0 := kF BK139.out 0; have hfz11_1 := kF BK139.out 1))
     go_ret2
     exact ⟨by first | rfl | (simp [errW_none, errW_some] <;> rfl) | (simp [*, errW_none, errW_some] <;> rfl), by repeat (first | (with_reducible first | exact HB.out | apply bA | apply bN | apply bD | refine bS ?_ GE137.out | refine bS ?_ GE139.out) | exact HB.out)⟩
   rw [if_neg c8] at H
   have c8b0 : (((rd_T34 l0_2 x11_1).f0).toList == a1.toList) = false := beq_eq_false_iff_ne.mpr c8
   have c8b1 : (((rd_T34 l0_2 x11_1).f0).toList != a1.toList) = true := bne_iff_ne.mpr c8
   have H' := As.mk H
   clear H
   have p138 : 0 ≤ (x11_1 : Int) := of_decide_eq_true (by first | (with_reducible assumption) | assumption)
   have q138 : x11_1 < (l0_2.length : Int) := of_decide_eq_true (by first | (with_reducible assumption) | assumption)
   obtain ⟨ad138, e138, hx138_0, hx138_1⟩ := at_T34 HR0_2.out x11_1 p138 q138
   cases e138
   replace hx138_0 := (HB.out.cell (World.block_lt_of_cell? w _ hx138_0)).trans hx138_0
   replace hx138_1 := (HB.out.cell (World.block_lt_of_cell? w _ hx138_1)).trans hx138_1
   replace p138 := eq_true p138
   replace q138 := eq_true q138
   go_wp2_with (first | ((with_reducible refine gate_dst (N := 7) rfl ?_); refine box_event ?hg (N := 7) ?hd (cs := #[.string (⟨#[]⟩ : ByteArray), .string (⟨#[]⟩ : ByteArray)]) (t := 34) ?hr ?_; (case hd => rfl); (case hg => rfl); (case hr => first | (go_simp; done) | (go_simp; rfl)); intro gb139 hg w12 hbox hb; have n0_ := As.mk (kB (g := gb137) (o := .cells #[.string a0_0, .string a0_1, .slice (some ad138) l0_2.length c0_2] 24 (0, 0)) (by (with_reducible repeat (first | refine kN ?_ _ | refine kD ?_ | refine kA ?_ _)); exact BK137.out) hb); have n1_ := As.mk (bT (by repeat (first | (with_reducible first | exact HB.out | apply bA | apply bN | apply bD | refine bS ?_ GE137.out) | exact HB.out)) hb); have n2_ := As.mk (hbox); have n3_ := As.mk ((by rw [hg]; exact (bZ (by repeat (first | (with_reducible first | exact HB.out | apply bA | apply bN | apply bD | refine bS ?_ GE137.out) | exact HB.out))) : w.heap.size ≤ gb139)); have n4_ := As.mk ((by rw [hg]; exact (bZ (by repeat (first | (with_reducible first | exact HB.out | apply bA | apply bN | apply bD | refine bS ?_ GE137.out) | exact HB.out))) : w.heap.size ≤ gb139)); have n5_ := As.mk ((by rw [hg]; exact Nat.ne_of_lt (blk_lt (g := gb137) (o := .cells #[.string a0_0, .string a0_1, .slice (some ad138) l0_2.length c0_2] 24 (0, 0)) (by (with_reducible repeat (first | refine kN ?_ _ | refine kD ?_ | refine kA ?_ _)); exact BK137.out)) : gb137 ≠ gb139)); have n6_ := As.mk ((by rw [hg]; exact Nat.ne_of_gt (blk_lt (g := gb137) (o := .cells #[.string a0_0, .string a0_1, .slice (some ad138) l0_2.length c0_2] 24 (0, 0)) (by (with_reducible repeat (first | refine kN ?_ _ | refine kD ?_ | refine kA ?_ _)); exact BK137.out)) : gb139 ≠ gb137)); clear BK137; clear HB; have BK137 := n0_; have HB := n1_; have BK139 := n2_; have GW139 := n3_; have GE139 := n4_; have NB137_139 := n5_; have NB139_137 := n6_; clear n0_ n1_ n2_ n3_ n4_ n5_ n6_; clear hb hbox hg; have hnb13 := NB139_137.out; have hnc13 := NB137_139.out; have hcz14_0 : w12.cell? ⟨gb139, 0, none⟩ = some (.string (⟨#[]⟩ : ByteArray)) := (kC BK139.out 0).trans rfl; have hcz14_1 : w12.cell? ⟨gb139, 1, none⟩ = some (.string (⟨#[]⟩ : ByteArray)) := (kC BK139.out 1).trans rfl; have hfz14_0 := kF BK139.out 0; have hfz14_1 := kF BK139.out 1))
   go_roundg k1
   case measure => have := HK1.out; omega
   case rel => exact ⟨(wrap64 (x11_1 + 1)), (by first | rfl | (simp; done) | (simp [*]; done)), H', ⟨by have := HK1.out; omega⟩, ⟨by (with_reducible repeat (first | refine kN ?_ _ | refine kD ?_ | refine kA ?_ _)); refine kR ?_ NB137_139.out _; (with_reducible repeat (first | refine kN ?_ _ | refine kD ?_ | refine kA ?_ _)); refine kR ?_ NB137_139.out _; (with_reducible repeat (first | refine kN ?_ _ | refine kD ?_ | refine kA ?_ _)); exact BK137.out⟩, ⟨by repeat (first | (with_reducible first | exact HB.out | apply bA | apply bN | apply bD | refine bS ?_ GE137.out | refine bS ?_ GE139.out) | exact HB.out)⟩⟩
mutual
def majordomoref06_Same.j0 : Nat → Bool → ByteArray → ByteArray → List (S34) → ByteArray → ByteArray → List (S34) → Option (Bool)
 | 0, _, _, _, _, _, _, _ => none
 | k + 1, x26, x289000, x289001, x289002, x290000, x290001, x290002 => if x26 = true then (some false) else (majordomoref06_Same.l0 k 0 x289000 x289001 x289002 x290000 x290001 x290002)
def majordomoref06_Same.l0 : Nat → Int → ByteArray → ByteArray → List (S34) → ByteArray → ByteArray → List (S34) → Option (Bool)
 | 0, _, _, _, _, _, _, _ => none
 | k + 1, x5, x289000, x289001, x289002, x290000, x290001, x290002 => if x5 < (x289002.length : Int) then (if 0 ≤ x5 then (if x5 < (x290002.length : Int) then (if (!((((rd_T34 x289002 x5).f0).toList) == (((rd_T34 x290002 x5).f0).toList)) || (!((((rd_T34 x289002 x5).f1).toList) == (((rd_T34 x290002 x5).f1).toList)))) = true then (some false) else (majordomoref06_Same.l0 k (wrap64 (x5 + 1)) x289000 x289001 x289002 x290000 x290001 x290002)) else (none)) else (none)) else (some true)
end
def majordomoref06_Same.f (k : Nat) (a0_0 : ByteArray) (a0_1 : ByteArray) (l0_2 : List (S34)) (a1_0 : ByteArray) (a1_1 : ByteArray) (l1_2 : List (S34)) : Option (Bool) := if a0_0.toList = a1_0.toList then (if a0_1.toList = a1_1.toList then (majordomoref06_Same.j0 k ((l0_2.length : Int) != (l1_2.length : Int)) a0_0 a0_1 l0_2 a1_0 a1_1 l1_2) else (majordomoref06_Same.j0 k true a0_0 a0_1 l0_2 a1_0 a1_1 l1_2)) else (majordomoref06_Same.j0 k true a0_0 a0_1 l0_2 a1_0 a1_1 l1_2)
end Go.Proofs.YtkgafkoopefghaaDoor.PA
end
section
namespace Go.Proofs.YtkgafkoopefghaaDoor.PA
open Go.RowKit Go.Proofs.YtkgafkoopefghaaDoorW.PrintWords Go.Proofs.YtkgafkoopefghaaDoorW.PrintLast Go.Proofs.YtkgafkoopefghaaDoorW.PrintMore
open Go.Proofs.YtkgafkoopefghaaDoor.Hk
attribute [local go_sem high] Go.Proofs.YtkgafkoopefghaaDoor.Hk.binOp_leq_not
attribute [local go_sem] max2_int min2_int max_two min_two max_three min_three max_four min_four
set_option linter.unusedVariables false
set_option linter.unusedSimpArgs false
def majordomoref06_Get.l0 : Nat → ByteArray → Int → ByteArray → ByteArray → List (S34) → Option (ByteArray × Bool)
 | 0, _, _, _, _, _ => none
 | k + 1, x1, x6, x320000, x320001, x320002 => if x6 < (x320002.length : Int) then (if 0 ≤ x6 then (if ((rd_T34 x320002 x6).f0).toList = x1.toList then (some ((rd_T34 x320002 x6).f1, true)) else (majordomoref06_Get.l0 k x1 (wrap64 (x6 + 1)) x320000 x320001 x320002)) else (none)) else (some ((⟨#[]⟩ : ByteArray), false))
def majordomoref06_Get.f (k : Nat) (a0_0 : ByteArray) (a0_1 : ByteArray) (l0_2 : List (S34)) (a1 : ByteArray) : Option (ByteArray × Bool) := majordomoref06_Get.l0 k a1 0 a0_0 a0_1 l0_2
set_option maxHeartbeats 8000000 in
set_option maxRecDepth 100000 in
theorem majordomoref06_Get.calls (k : Nat) (a0_0 : ByteArray) (a0_1 : ByteArray) (A0_2 : Option Addr) (c0_2 : Nat) (l0_2 : List (S34)) (a1 : ByteArray) (r1 : ByteArray) (r2 : Bool) (w : World) (hr0_2 : Kd.C k34 w A0_2 l0_2.length l0_2) (hc0_2 : l0_2.length ≤ c0_2) (h : majordomoref06_Get.f k a0_0 a0_1 l0_2 a1 = some (r1, r2)) :
 Calls Tryd.prog 12 #[.agg #[.string a0_0, .string a0_1, .slice A0_2 l0_2.length c0_2], .string a1] w fun e w' => e = .returned (.tuple #[.string r1, .bool r2]) ∧ Below w.heap.size w w' := by
 have hu24 := Tryd.underlying24
 have HR0_2 := As.mk hr0_2
 have HC0_2 := As.mk hc0_2
 clear hr0_2 hc0_2
 have HB := As.mk (Below.refl w.heap.size w)
 have H : (majordomoref06_Get.l0 k a1 0 a0_0 a0_1 l0_2) = some (r1, r2) := h
 clear h
 have H' := As.mk H
 clear H
 go_enter Tryd.func12, Tryd.ntmps12
 go_wp2_with (first | ((with_reducible refine gate_dst (N := 2) rfl ?_); refine box_event ?hg (N := 2) ?hd (cs := #[.string a0_0, .string a0_1, .slice A0_2 l0_2.length c0_2]) (t := 24) ?hr ?_; (case hd => rfl); (case hg => rfl); (case hr => first | (go_simp; done) | (go_simp; rfl)); intro gb319 hg w3 hbox hb; have n0_ := As.mk (bT (by repeat (first | (with_reducible first | exact HB.out | apply bA | apply bN | apply bD) | exact HB.out)) hb); have n1_ := As.mk (hbox); have n2_ := As.mk ((by rw [hg]; exact (bZ (by repeat (first | (with_reducible first | exact HB.out | apply bA | apply bN | apply bD) | exact HB.out))) : w.heap.size ≤ gb319)); have n3_ := As.mk ((by rw [hg]; exact (bZ (by repeat (first | (with_reducible first | exact HB.out | apply bA | apply bN | apply bD) | exact HB.out))) : w.heap.size ≤ gb319)); clear HB; have HB := n0_; have BK319 := n1_; have GW319 := n2_; have GE319 := n3_; clear n0_ n1_ n2_ n3_; clear hb hbox hg))
 go_loopg [6] k (fun kq v6 w' => ∃ (x6_1 : Int), v6 = .int .i64 x6_1 ∧ As (majordomoref06_Get.l0 kq a1 x6_1 a0_0 a0_1 l0_2 = some (r1, r2)) ∧ As (kq ≤ k) ∧ As (w'.heap[gb319]? = some (.cells #[.string a0_0, .string a0_1, (.slice A0_2 l0_2.length c0_2)] 24 (0, 0))) ∧ As (Below w.heap.size w w'))
 case atStart => exact ⟨(0), (by first | rfl | (simp; done) | (simp [*]; done)), H', ⟨Nat.le_refl _⟩, ⟨by (with_reducible repeat (first | refine kN ?_ _ | refine kD ?_ | refine kA ?_ _)); exact BK319.out⟩, ⟨by repeat (first | (with_reducible first | exact HB.out | apply bA | apply bN | apply bD | refine bS ?_ GE319.out) | exact HB.out)⟩⟩
 case round =>
  clear H'
  try clear c1
  try clear p2
  obtain ⟨x6_1, rfl, HA, HK1, BK319, HB⟩ := hrel
  cases gk with
  | zero => exact absurd HA.out (by simp [majordomoref06_Get.l0])
  | succ k1 =>
   have H := HA.out
   clear HA
   simp only [majordomoref06_Get.l0] at H
   by_cases c4 : x6_1 < (l0_2.length : Int)
   rotate_left
   · rw [if_neg c4] at H
     have c4b0 : decide (x6_1 < (l0_2.length : Int)) = false := decide_eq_false c4
     clear c4
     simp only [Option.some.injEq, Prod.mk.injEq] at H
     obtain ⟨rfl, rfl⟩ := H
     have hcz9_0 : wr.cell? ⟨gb319, 0, none⟩ = some (.string a0_0) := (kC BK319.out 0).trans rfl
     have hcz9_1 : wr.cell? ⟨gb319, 1, none⟩ = some (.string a0_1) := (kC BK319.out 1).trans rfl
     have hcz9_2 : wr.cell? ⟨gb319, 2, none⟩ = some (.slice A0_2 l0_2.length c0_2) := (kC BK319.out 2).trans rfl
     have hfz9_0 := kF BK319.out 0
     have hfz9_1 := kF BK319.out 1
     have hfz9_2 := kF BK319.out 2
     go_wp2
     go_ret2
     exact ⟨by first | rfl | (simp [errW_none, errW_some] <;> rfl) | (simp [*, errW_none, errW_some] <;> rfl), by repeat (first | (with_reducible first | exact HB.out | apply bA | apply bN | apply bD | refine bS ?_ GE319.out) | exact HB.out)⟩
   rw [if_pos c4] at H
   have c4b0 : decide (x6_1 < (l0_2.length : Int)) = true := decide_eq_true c4
   clear c4
   by_cases c5 : 0 ≤ x6_1
   rotate_left
   · rw [if_neg c5] at H
     exact absurd H (by simp)
   rw [if_pos c5] at H
   have c5b0 : decide (0 ≤ x6_1) = true := decide_eq_true c5
   clear c5
   by_cases c6 : ((rd_T34 l0_2 x6_1).f0).toList = a1.toList
   rotate_left
   · rw [if_neg c6] at H
     have c6b0 : (((rd_T34 l0_2 x6_1).f0).toList == a1.toList) = false := beq_eq_false_iff_ne.mpr c6
     have c6b1 : (((rd_T34 l0_2 x6_1).f0).toList != a1.toList) = true := bne_iff_ne.mpr c6
     have H' := As.mk H
     clear H
     have hcz8_0 : wr.cell? ⟨gb319, 0, none⟩ = some (.string a0_0) := (kC BK319.out 0).trans rfl
     have hcz8_1 : wr.cell? ⟨gb319, 1, none⟩ = some (.string a0_1) := (kC BK319.out 1).trans rfl
     have hcz8_2 : wr.cell? ⟨gb319, 2, none⟩ = some (.slice A0_2 l0_2.length c0_2) := (kC BK319.out 2).trans rfl
     have hfz8_0 := kF BK319.out 0
     have hfz8_1 := kF BK319.out 1
     have hfz8_2 := kF BK319.out 2
     have p320 : 0 ≤ (x6_1 : Int) := of_decide_eq_true (by first | (with_reducible assumption) | assumption)
     have q320 : x6_1 < (l0_2.length : Int) := of_decide_eq_true (by first | (with_reducible assumption) | assumption)
     obtain ⟨ad320, e320, hx320_0, hx320_1⟩ := at_T34 HR0_2.out x6_1 p320 q320
     cases e320
     replace hx320_0 := (HB.out.cell (World.block_lt_of_cell? w _ hx320_0)).trans hx320_0
     replace hx320_1 := (HB.out.cell (World.block_lt_of_cell? w _ hx320_1)).trans hx320_1
     replace p320 := eq_true p320
     replace q320 := eq_true q320
     go_wp2
     go_roundg k1
     case measure => have := HK1.out; omega
     case rel => exact ⟨(wrap64 (x6_1 + 1)), (by first | rfl | (simp; done) | (simp [*]; done)), H', ⟨by have := HK1.out; omega⟩, ⟨by (with_reducible repeat (first | refine kN ?_ _ | refine kD ?_ | refine kA ?_ _)); exact BK319.out⟩, ⟨by repeat (first | (with_reducible first | exact HB.out | apply bA | apply bN | apply bD | refine bS ?_ GE319.out) | exact HB.out)⟩⟩
   rw [if_pos c6] at H
   have c6b0 : (((rd_T34 l0_2 x6_1).f0).toList == a1.toList) = true := beq_iff_eq.mpr c6
   have c6b1 : (((rd_T34 l0_2 x6_1).f0).toList != a1.toList) = false := bne_eq_false_iff_eq.mpr c6
   clear c6
   simp only [Option.some.injEq, Prod.mk.injEq] at H
   obtain ⟨rfl, rfl⟩ := H
   have hcz7_0 : wr.cell? ⟨gb319, 0, none⟩ = some (.string a0_0) := (kC BK319.out 0).trans rfl
   have hcz7_1 : wr.cell? ⟨gb319, 1, none⟩ = some (.string a0_1) := (kC BK319.out 1).trans rfl
   have hcz7_2 : wr.cell? ⟨gb319, 2, none⟩ = some (.slice A0_2 l0_2.length c0_2) := (kC BK319.out 2).trans rfl
   have hfz7_0 := kF BK319.out 0
   have hfz7_1 := kF BK319.out 1
   have hfz7_2 := kF BK319.out 2
   have p320 : 0 ≤ (x6_1 : Int) := of_decide_eq_true (by first | (with_reducible assumption) | assumption)
   have q320 : x6_1 < (l0_2.length : Int) := of_decide_eq_true (by first | (with_reducible assumption) | assumption)
   obtain ⟨ad320, e320, hx320_0, hx320_1⟩ := at_T34 HR0_2.out x6_1 p320 q320
   cases e320
   replace hx320_0 := (HB.out.cell (World.block_lt_of_cell? w _ hx320_0)).trans hx320_0
   replace hx320_1 := (HB.out.cell (World.block_lt_of_cell? w _ hx320_1)).trans hx320_1
   replace p320 := eq_true p320
   replace q320 := eq_true q320
   have p321 : 0 ≤ (x6_1 : Int) := of_decide_eq_true (by first | (with_reducible assumption) | assumption)
   have q321 : x6_1 < (l0_2.length : Int) := of_decide_eq_true (by first | (with_reducible assumption) | assumption)
   obtain ⟨ad321, e321, hx321_0, hx321_1⟩ := at_T34 HR0_2.out x6_1 p321 q321
   obtain rfl : ad320 = ad321 := (by injection e321)
   replace hx321_0 := (HB.out.cell (World.block_lt_of_cell? w _ hx321_0)).trans hx321_0
   replace hx321_1 := (HB.out.cell (World.block_lt_of_cell? w _ hx321_1)).trans hx321_1
   replace p321 := eq_true p321
   replace q321 := eq_true q321
   go_wp2
   go_ret2
   exact ⟨by first | rfl | (simp [errW_none, errW_some] <;> rfl) | (simp [*, errW_none, errW_some] <;> rfl), by repeat (first | (with_reducible first | exact HB.out | apply bA | apply bN | apply bD | refine bS ?_ GE319.out) | exact HB.out)⟩
def resource_Less.f (a0_0 : ByteArray) (a0_1 : ByteArray) (l0_2 : List (S34)) (a1_0 : ByteArray) (a1_1 : ByteArray) (l1_2 : List (S34)) : Option (Bool) := if a0_0.toList = a1_0.toList then (some (Op.bytesLess a0_1.toList a1_1.toList)) else (some (Op.bytesLess a0_0.toList a1_0.toList))
set_option maxHeartbeats 8000000 in
set_option maxRecDepth 100000 in
theorem resource_Less.calls (a0_0 : ByteArray) (a0_1 : ByteArray) (A0_2 : Option Addr) (c0_2 : Nat) (l0_2 : List (S34)) (a1_0 : ByteArray) (a1_1 : ByteArray) (A1_2 : Option Addr) (c1_2 : Nat) (l1_2 : List (S34)) (r : Bool) (w : World) (hr0_2 : Kd.C k34 w A0_2 l0_2.length l0_2) (hc0_2 : l0_2.length ≤ c0_2) (hr1_2 : Kd.C k34 w A1_2 l1_2.length l1_2) (hc1_2 : l1_2.length ≤ c1_2) (h : resource_Less.f a0_0 a0_1 l0_2 a1_0 a1_1 l1_2 = some r) :
 Calls Tryd.prog 13 #[.agg #[.string a0_0, .string a0_1, .slice A0_2 l0_2.length c0_2], .agg #[.string a1_0, .string a1_1, .slice A1_2 l1_2.length c1_2]] w fun e w' => e = .returned (.bool r) ∧ Below w.heap.size w w' := by
 have hu24 := Tryd.underlying24
 have HR0_2 := As.mk hr0_2
 have HC0_2 := As.mk hc0_2
 clear hr0_2 hc0_2
 have HR1_2 := As.mk hr1_2
 have HC1_2 := As.mk hc1_2
 clear hr1_2 hc1_2
 have HB := As.mk (Below.refl w.heap.size w)
 have H : (if a0_0.toList = a1_0.toList then (some (Op.bytesLess a0_1.toList a1_1.toList)) else (some (Op.bytesLess a0_0.toList a1_0.toList))) = some r := h
 clear h
 by_cases c3 : a0_0.toList = a1_0.toList
 · rw [if_pos c3] at H
   have c3b0 : (a0_0.toList == a1_0.toList) = true := beq_iff_eq.mpr c3
   have c3b1 : (a0_0.toList != a1_0.toList) = false := bne_eq_false_iff_eq.mpr c3
   clear c3
   obtain rfl := Option.some.inj H
   go_enter Tryd.func13, Tryd.ntmps13
   go_wp2_with (first | ((with_reducible refine gate_dst (N := 2) rfl ?_); refine box_event ?hg (N := 2) ?hd (cs := #[.string a0_0, .string a0_1, .slice A0_2 l0_2.length c0_2]) (t := 24) ?hr ?_; (case hd => rfl); (case hg => rfl); (case hr => first | (go_simp; done) | (go_simp; rfl)); intro gb322 hg w4 hbox hb; have n0_ := As.mk (bT (by repeat (first | (with_reducible first | exact HB.out | apply bA | apply bN | apply bD) | exact HB.out)) hb); have n1_ := As.mk (hbox); have n2_ := As.mk ((by rw [hg]; exact (bZ (by repeat (first | (with_reducible first | exact HB.out | apply bA | apply bN | apply bD) | exact HB.out))) : w.heap.size ≤ gb322)); have n3_ := As.mk ((by rw [hg]; exact (bZ (by repeat (first | (with_reducible first | exact HB.out | apply bA | apply bN | apply bD) | exact HB.out))) : w.heap.size ≤ gb322)); clear HB; have HB := n0_; have BK322 := n1_; have GW322 := n2_; have GE322 := n3_; clear n0_ n1_ n2_ n3_; clear hb hbox hg) | ((with_reducible refine gate_dst (N := 3) rfl ?_); refine box_event ?hg (N := 3) ?hd (cs := #[.string a1_0, .string a1_1, .slice A1_2 l1_2.length c1_2]) (t := 24) ?hr ?_; (case hd => rfl); (case hg => rfl); (case hr => first | (go_simp; done) | (go_simp; rfl)); intro gb323 hg w5 hbox hb; have n0_ := As.mk (kB (g := gb322) (o := .cells #[.string a0_0, .string a0_1, .slice A0_2 l0_2.length c0_2] 24 (0, 0)) (by (with_reducible repeat (first | refine kN ?_ _ | refine kD ?_ | refine kA ?_ _)); exact BK322.out) hb); have n1_ := As.mk (bT (by repeat (first | (with_reducible first | exact HB.out | apply bA | apply bN | apply bD | refine bS ?_ GE322.out) | exact HB.out)) hb); have n2_ := As.mk (hbox); have n3_ := As.mk ((by rw [hg]; exact (bZ (by repeat (first | (with_reducible first | exact HB.out | apply bA | apply bN | apply bD | refine bS ?_ GE322.out) | exact HB.out))) : w.heap.size ≤ gb323)); have n4_ := As.mk ((by rw [hg]; exact (bZ (by repeat (first | (with_reducible first | exact HB.out | apply bA | apply bN | apply bD | refine bS ?_ GE322.out) | exact HB.out))) : w.heap.size ≤ gb323)); have n5_ := As.mk ((by rw [hg]; exact Nat.ne_of_lt (blk_lt (g := gb322) (o := .cells #[.string a0_0, .string a0_1, .slice A0_2 l0_2.length c0_2] 24 (0, 0)) (by (with_reducible repeat (first | refine kN ?_ _ | refine kD ?_ | refine kA ?_ _)); exact BK322.out)) : gb322 ≠ gb323)); have n6_ := As.mk ((by rw [hg]; exact Nat.ne_of_gt (blk_lt (g := gb322) (o := .cells #[.string a0_0, .string a0_1, .slice A0_2 l0_2.length c0_2] 24 (0, 0)) (by (with_reducible repeat (first | refine kN ?_ _ | refine kD ?_ | refine kA ?_ _)); exact BK322.out)) : gb323 ≠ gb322)); clear BK322; clear HB; have BK322 := n0_; have HB := n1_; have BK323 := n2_; have GW323 := n3_; have GE323 := n4_; have NB322_323 := n5_; have NB323_322 := n6_; clear n0_ n1_ n2_ n3_ n4_ n5_ n6_; clear hb hbox hg; have hnb6 := NB322_323.out; have hnc6 := NB323_322.out; have hcz7_0 : w5.cell? ⟨gb322, 0, none⟩ = some (.string a0_0) := (kC BK322.out 0).trans rfl; have hcz7_1 : w5.cell? ⟨gb322, 1, none⟩ = some (.string a0_1) := (kC BK322.out 1).trans rfl; have hcz7_2 : w5.cell? ⟨gb322, 2, none⟩ = some (.slice A0_2 l0_2.length c0_2) := (kC BK322.out 2).trans rfl; have hfz7_0 := kF BK322.out 0; have hfz7_1 := kF BK322.out 1; have hfz7_2 := kF BK322.out 2; have hcz8_0 : w5.cell? ⟨gb323, 0, none⟩ = some (.string a1_0) := (kC BK323.out 0).trans rfl; have hcz8_1 : w5.cell? ⟨gb323, 1, none⟩ = some (.string a1_1) := (kC BK323.out 1).trans rfl; have hcz8_2 : w5.cell? ⟨gb323, 2, none⟩ = some (.slice A1_2 l1_2.length c1_2) := (kC BK323.out 2).trans rfl; have hfz8_0 := kF BK323.out 0; have hfz8_1 := kF BK323.out 1; have hfz8_2 := kF BK323.out 2))
   go_ret
   exact ⟨by first | rfl | (simp [errW_none, errW_some] <;> rfl) | (simp [*, errW_none, errW_some] <;> rfl), by repeat (first | (with_reducible first | exact HB.out | apply bA | apply bN | apply bD | refine bS ?_ GE322.out | refine bS ?_ GE323.out) | exact HB.out)⟩
 rw [if_neg c3] at H
 have c3b0 : (a0_0.toList == a1_0.toList) = false := beq_eq_false_iff_ne.mpr c3
 have c3b1 : (a0_0.toList != a1_0.toList) = true := bne_iff_ne.mpr c3
 obtain rfl := Option.some.inj H
 go_enter Tryd.func13, Tryd.ntmps13
 go_wp2_with (first | ((with_reducible refine gate_dst (N := 2) rfl ?_); refine box_event ?hg (N := 2) ?hd (cs := #[.string a0_0, .string a0_1, .slice A0_2 l0_2.length c0_2]) (t := 24) ?hr ?_; (case hd => rfl); (case hg => rfl); (case hr => first | (go_simp; done) | (go_simp; rfl)); intro gb322 hg w9 hbox hb; have n0_ := As.mk (bT (by repeat (first | (with_reducible first | exact HB.out | apply bA | apply bN | apply bD) | exact HB.out)) hb); have n1_ := As.mk (hbox); have n2_ := As.mk ((by rw [hg]; exact (bZ (by repeat (first | (with_reducible first | exact HB.out | apply bA | apply bN | apply bD) | exact HB.out))) : w.heap.size ≤ gb322)); have n3_ := As.mk ((by rw [hg]; exact (bZ (by repeat (first | (with_reducible first | exact HB.out | apply bA | apply bN | apply bD) | exact HB.out))) : w.heap.size ≤ gb322)); clear HB; have HB := n0_; have BK322 := n1_; have GW322 := n2_; have GE322 := n3_; clear n0_ n1_ n2_ n3_; clear hb hbox hg) | ((with_reducible refine gate_dst (N := 3) rfl ?_); refine box_event ?hg (N := 3) ?hd (cs := #[.string a1_0, .string a1_1, .slice A1_2 l1_2.length c1_2]) (t := 24) ?hr ?_; (case hd => rfl); (case hg => rfl); (case hr => first | (go_simp; done) | (go_simp; rfl)); intro gb323 hg w10 hbox hb; have n0_ := As.mk (kB (g := gb322) (o := .cells #[.string a0_0, .string a0_1, .slice A0_2 l0_2.length c0_2] 24 (0, 0)) (by (with_reducible repeat (first | refine kN ?_ _ | refine kD ?_ | refine kA ?_ _)); exact BK322.out) hb); have n1_ := As.mk (bT (by repeat (first | (with_reducible first | exact HB.out | apply bA | apply bN | apply bD | refine bS ?_ GE322.out) | exact HB.out)) hb); have n2_ := As.mk (hbox); have n3_ := As.mk ((by rw [hg]; exact (bZ (by repeat (first | (with_reducible first | exact HB.out | apply bA | apply bN | apply bD | refine bS ?_ GE322.out) | exact HB.out))) : w.heap.size ≤ gb323)); have n4_ := As.mk ((by rw [hg]; exact (bZ (by repeat (first | (with_reducible first | exact HB.out | apply bA | apply bN | apply bD | refine bS ?_ GE322.out) | exact HB.out))) : w.heap.size ≤ gb323)); have n5_ := As.mk ((by rw [hg]; exact Nat.ne_of_lt (blk_lt (g := gb322) (o := .cells #[.string a0_0, .string a0_1, .slice A0_2 l0_2.length c0_2] 24 (0, 0)) (by (with_reducible repeat (first | refine kN ?_ _ | refine kD ?_ | refine kA ?_ _)); exact BK322.out)) : gb322 ≠ gb323)); have n6_ := As.mk ((by rw [hg]; exact Nat.ne_of_gt (blk_lt (g := gb322) (o := .cells #[.string a0_0, .string a0_1, .slice A0_2 l0_2.length c0_2] 24 (0, 0)) (by (with_reducible repeat (first | refine kN ?_ _ | refine kD ?_ | refine kA ?_ _)); exact BK322.out)) : gb323 ≠ gb322)); clear BK322; clear HB; have BK322 := n0_; have HB := n1_; have BK323 := n2_; have GW323 := n3_; have GE323 := n4_; have NB322_323 := n5_; have NB323_322 := n6_; clear n0_ n1_ n2_ n3_ n4_ n5_ n6_; clear hb hbox hg; have hnb11 := NB322_323.out; have hnc11 := NB323_322.out; have hcz12_0 : w10.cell? ⟨gb322, 0, none⟩ = some (.string a0_0) := (kC BK322.out 0).trans rfl; have hcz12_1 : w10.cell? ⟨gb322, 1, none⟩ = some (.string a0_1) := (kC BK322.out 1).trans rfl; have hcz12_2 : w10.cell? ⟨gb322, 2, none⟩ = some (.slice A0_2 l0_2.length c0_2) := (kC BK322.out 2).trans rfl; have hfz12_0 := kF BK322.out 0; have hfz12_1 := kF BK322.out 1; have hfz12_2 := kF BK322.out 2; have hcz13_0 : w10.cell? ⟨gb323, 0, none⟩ = some (.string a1_0) := (kC BK323.out 0).trans rfl; have hcz13_1 : w10.cell? ⟨gb323, 1, none⟩ = some (.string a1_1) := (kC BK323.out 1).trans rfl; have hcz13_2 : w10.cell? ⟨gb323, 2, none⟩ = some (.slice A1_2 l1_2.length c1_2) := (kC BK323.out 2).trans rfl; have hfz13_0 := kF BK323.out 0; have hfz13_1 := kF BK323.out 1; have hfz13_2 := kF BK323.out 2))
 go_ret
 exact ⟨by first | rfl | (simp [errW_none, errW_some] <;> rfl) | (simp [*, errW_none, errW_some] <;> rfl), by repeat (first | (with_reducible first | exact HB.out | apply bA | apply bN | apply bD | refine bS ?_ GE322.out | refine bS ?_ GE323.out) | exact HB.out)⟩
def resource_Name.f (a0_0 : ByteArray) (a0_1 : ByteArray) (l0_2 : List (S34)) : Option (ByteArray) := if a0_0.size + 1 ≤ 9223372036854775807 then (if (a0_0 ++ (⟨#[91]⟩ : ByteArray)).size + a0_1.size ≤ 9223372036854775807 then (if ((a0_0 ++ (⟨#[91]⟩ : ByteArray)) ++ a0_1).size + 1 ≤ 9223372036854775807 then (some (((a0_0 ++ (⟨#[91]⟩ : ByteArray)) ++ a0_1) ++ (⟨#[93]⟩ : ByteArray))) else (none)) else (none)) else (none)
set_option maxHeartbeats 8000000 in
set_option maxRecDepth 100000 in
theorem resource_Name.calls (a0_0 : ByteArray) (a0_1 : ByteArray) (A0_2 : Option Addr) (c0_2 : Nat) (l0_2 : List (S34)) (r : ByteArray) (w : World) (hr0_2 : Kd.C k34 w A0_2 l0_2.length l0_2) (hc0_2 : l0_2.length ≤ c0_2) (h : resource_Name.f a0_0 a0_1 l0_2 = some r) :
 Calls Tryd.prog 14 #[.agg #[.string a0_0, .string a0_1, .slice A0_2 l0_2.length c0_2]] w fun e w' => e = .returned (.string r) ∧ Below w.heap.size w w' := by
 have hu24 := Tryd.underlying24
 have HR0_2 := As.mk hr0_2
 have HC0_2 := As.mk hc0_2
 clear hr0_2 hc0_2
 have HB := As.mk (Below.refl w.heap.size w)
 have H : (if a0_0.size + 1 ≤ 9223372036854775807 then (if (a0_0 ++ (⟨#[91]⟩ : ByteArray)).size + a0_1.size ≤ 9223372036854775807 then (if ((a0_0 ++ (⟨#[91]⟩ : ByteArray)) ++ a0_1).size + 1 ≤ 9223372036854775807 then (some (((a0_0 ++ (⟨#[91]⟩ : ByteArray)) ++ a0_1) ++ (⟨#[93]⟩ : ByteArray))) else (none)) else (none)) else (none)) = some r := h
 clear h
 by_cases c2 : a0_0.size + 1 ≤ 9223372036854775807
 rotate_left
 · rw [if_neg c2] at H
   exact absurd H (by simp)
 rw [if_pos c2] at H
 have c2b0 := eq_true c2
 have c2b1 : decide (a0_0.size + 1 ≤ 9223372036854775807) = true := decide_eq_true c2
 try have c2b2 : (9223372036854775807 < a0_0.size + 1) = False := eq_false (Nat.not_lt.2 c2)
 by_cases c3 : (a0_0 ++ (⟨#[91]⟩ : ByteArray)).size + a0_1.size ≤ 9223372036854775807
 rotate_left
 · rw [if_neg c3] at H
   exact absurd H (by simp)
 rw [if_pos c3] at H
 have c3b0 := eq_true c3
 have c3b1 : decide ((a0_0 ++ (⟨#[91]⟩ : ByteArray)).size + a0_1.size ≤ 9223372036854775807) = true := decide_eq_true c3
 try have c3b2 : (9223372036854775807 < (a0_0 ++ (⟨#[91]⟩ : ByteArray)).size + a0_1.size) = False := eq_false (Nat.not_lt.2 c3)
 by_cases c4 : ((a0_0 ++ (⟨#[91]⟩ : ByteArray)) ++ a0_1).size + 1 ≤ 9223372036854775807
 rotate_left
 · rw [if_neg c4] at H
   exact absurd H (by simp)
 rw [if_pos c4] at H
 have c4b0 := eq_true c4
 have c4b1 : decide (((a0_0 ++ (⟨#[91]⟩ : ByteArray)) ++ a0_1).size + 1 ≤ 9223372036854775807) = true := decide_eq_true c4
 try have c4b2 : (9223372036854775807 < ((a0_0 ++ (⟨#[91]⟩ : ByteArray)) ++ a0_1).size + 1) = False := eq_false (Nat.not_lt.2 c4)
 obtain rfl := Option.some.inj H
 have hz_ : (9223372036854775807 < a0_0.size + 1 + a0_1.size + 1) = False := eq_false (by
  have h := of_eq_true c4b0
  simp only [ByteArray.size_append] at h
  have e : (⟨#[91]⟩ : ByteArray).size = 1 := rfl
  omega)
 go_enter Tryd.func14, Tryd.ntmps14
 go_wp2_with (first | ((with_reducible refine gate_dst (N := 1) rfl ?_); refine box_event ?hg (N := 1) ?hd (cs := #[.string a0_0, .string a0_1, .slice A0_2 l0_2.length c0_2]) (t := 24) ?hr ?_; (case hd => rfl); (case hg => rfl); (case hr => first | (go_simp; done) | (go_simp; rfl)); intro gb324 hg w5 hbox hb; have n0_ := As.mk (bT (by repeat (first | (with_reducible first | exact HB.out | apply bA | apply bN | apply bD) | exact HB.out)) hb); have n1_ := As.mk (hbox); have n2_ := As.mk ((by rw [hg]; exact (bZ (by repeat (first | (with_reducible first | exact HB.out | apply bA | apply bN | apply bD) | exact HB.out))) : w.heap.size ≤ gb324)); have n3_ := As.mk ((by rw [hg]; exact (bZ (by repeat (first | (with_reducible first | exact HB.out | apply bA | apply bN | apply bD) | exact HB.out))) : w.heap.size ≤ gb324)); clear HB; have HB := n0_; have BK324 := n1_; have GW324 := n2_; have GE324 := n3_; clear n0_ n1_ n2_ n3_; clear hb hbox hg; have hcz6_0 : w5.cell? ⟨gb324, 0, none⟩ = some (.string a0_0) := (kC BK324.out 0).trans rfl; have hcz6_1 : w5.cell? ⟨gb324, 1, none⟩ = some (.string a0_1) := (kC BK324.out 1).trans rfl; have hcz6_2 : w5.cell? ⟨gb324, 2, none⟩ = some (.slice A0_2 l0_2.length c0_2) := (kC BK324.out 2).trans rfl; have hfz6_0 := kF BK324.out 0; have hfz6_1 := kF BK324.out 1; have hfz6_2 := kF BK324.out 2))
 go_ret
 exact ⟨by first | rfl | (simp [errW_none, errW_some] <;> rfl) | (simp [*, errW_none, errW_some] <;> rfl), by repeat (first | (with_reducible first | exact HB.out | apply bA | apply bN | apply bD | refine bS ?_ GE324.out) | exact HB.out)⟩
def majordomoref06_Name.f (a0_0 : ByteArray) (a0_1 : ByteArray) (l0_2 : List (S34)) : Option (ByteArray) := if a0_0.size + 1 ≤ 9223372036854775807 then (if (a0_0 ++ (⟨#[91]⟩ : ByteArray)).size + a0_1.size ≤ 9223372036854775807 then (if ((a0_0 ++ (⟨#[91]⟩ : ByteArray)) ++ a0_1).size + 1 ≤ 9223372036854775807 then (some (((a0_0 ++ (⟨#[91]⟩ : ByteArray)) ++ a0_1) ++ (⟨#[93]⟩ : ByteArray))) else (none)) else (none)) else (none)
set_option maxHeartbeats 8000000 in
set_option maxRecDepth 100000 in
theorem majordomoref06_Name.calls (a0_0 : ByteArray) (a0_1 : ByteArray) (A0_2 : Option Addr) (c0_2 : Nat) (l0_2 : List (S34)) (r : ByteArray) (w : World) (hr0_2 : Kd.C k34 w A0_2 l0_2.length l0_2) (hc0_2 : l0_2.length ≤ c0_2) (h : majordomoref06_Name.f a0_0 a0_1 l0_2 = some r) :
 Calls Tryd.prog 15 #[.agg #[.string a0_0, .string a0_1, .slice A0_2 l0_2.length c0_2]] w fun e w' => e = .returned (.string r) ∧ Below w.heap.size w w' := by
 have hu24 := Tryd.underlying24
 have HR0_2 := As.mk hr0_2
 have HC0_2 := As.mk hc0_2
 clear hr0_2 hc0_2
 have HB := As.mk (Below.refl w.heap.size w)
 have H : (if a0_0.size + 1 ≤ 9223372036854775807 then (if (a0_0 ++ (⟨#[91]⟩ : ByteArray)).size + a0_1.size ≤ 9223372036854775807 then (if ((a0_0 ++ (⟨#[91]⟩ : ByteArray)) ++ a0_1).size + 1 ≤ 9223372036854775807 then (some (((a0_0 ++ (⟨#[91]⟩ : ByteArray)) ++ a0_1) ++ (⟨#[93]⟩ : ByteArray))) else (none)) else (none)) else (none)) = some r := h
 clear h
 by_cases c2 : a0_0.size + 1 ≤ 9223372036854775807
 rotate_left
 · rw [if_neg c2] at H
   exact absurd H (by simp)
 rw [if_pos c2] at H
 have c2b0 := eq_true c2
 have c2b1 : decide (a0_0.size + 1 ≤ 9223372036854775807) = true := decide_eq_true c2
 try have c2b2 : (9223372036854775807 < a0_0.size + 1) = False := eq_false (Nat.not_lt.2 c2)
 by_cases c3 : (a0_0 ++ (⟨#[91]⟩ : ByteArray)).size + a0_1.size ≤ 9223372036854775807
 rotate_left
 · rw [if_neg c3] at H
   exact absurd H (by simp)
 rw [if_pos c3] at H
 have c3b0 := eq_true c3
 have c3b1 : decide ((a0_0 ++ (⟨#[91]⟩ : ByteArray)).size + a0_1.size ≤ 9223372036854775807) = true := decide_eq_true c3
 try have c3b2 : (9223372036854775807 < (a0_0 ++ (⟨#[91]⟩ : ByteArray)).size + a0_1.size) = False := eq_false (Nat.not_lt.2 c3)
 by_cases c4 : ((a0_0 ++ (⟨#[91]⟩ : ByteArray)) ++ a0_1).size + 1 ≤ 9223372036854775807
 rotate_left
 · rw [if_neg c4] at H
   exact absurd H (by simp)
 rw [if_pos c4] at H
 have c4b0 := eq_true c4
 have c4b1 : decide (((a0_0 ++ (⟨#[91]⟩ : ByteArray)) ++ a0_1).size + 1 ≤ 9223372036854775807) = true := decide_eq_true c4
 try have c4b2 : (9223372036854775807 < ((a0_0 ++ (⟨#[91]⟩ : ByteArray)) ++ a0_1).size + 1) = False := eq_false (Nat.not_lt.2 c4)
 obtain rfl := Option.some.inj H
 have hz_ : (9223372036854775807 < a0_0.size + 1 + a0_1.size + 1) = False := eq_false (by
  have h := of_eq_true c4b0
  simp only [ByteArray.size_append] at h
  have e : (⟨#[91]⟩ : ByteArray).size = 1 := rfl
  omega)
 go_enter Tryd.func15, Tryd.ntmps15
 go_wp2_with (first | ((with_reducible refine gate_dst (N := 1) rfl ?_); refine box_event ?hg (N := 1) ?hd (cs := #[.string a0_0, .string a0_1, .slice A0_2 l0_2.length c0_2]) (t := 24) ?hr ?_; (case hd => rfl); (case hg => rfl); (case hr => first | (go_simp; done) | (go_simp; rfl)); intro gb325 hg w5 hbox hb; have n0_ := As.mk (bT (by repeat (first | (with_reducible first | exact HB.out | apply bA | apply bN | apply bD) | exact HB.out)) hb); have n1_ := As.mk (hbox); have n2_ := As.mk ((by rw [hg]; exact (bZ (by repeat (first | (with_reducible first | exact HB.out | apply bA | apply bN | apply bD) | exact HB.out))) : w.heap.size ≤ gb325)); have n3_ := As.mk ((by rw [hg]; exact (bZ (by repeat (first | (with_reducible first | exact HB.out | apply bA | apply bN | apply bD) | exact HB.out))) : w.heap.size ≤ gb325)); clear HB; have HB := n0_; have BK325 := n1_; have GW325 := n2_; have GE325 := n3_; clear n0_ n1_ n2_ n3_; clear hb hbox hg; have hcz6_0 : w5.cell? ⟨gb325, 0, none⟩ = some (.string a0_0) := (kC BK325.out 0).trans rfl; have hcz6_1 : w5.cell? ⟨gb325, 1, none⟩ = some (.string a0_1) := (kC BK325.out 1).trans rfl; have hcz6_2 : w5.cell? ⟨gb325, 2, none⟩ = some (.slice A0_2 l0_2.length c0_2) := (kC BK325.out 2).trans rfl; have hfz6_0 := kF BK325.out 0; have hfz6_1 := kF BK325.out 1; have hfz6_2 := kF BK325.out 2))
 go_ret
 exact ⟨by first | rfl | (simp [errW_none, errW_some] <;> rfl) | (simp [*, errW_none, errW_some] <;> rfl), by repeat (first | (with_reducible first | exact HB.out | apply bA | apply bN | apply bD | refine bS ?_ GE325.out) | exact HB.out)⟩
def majordomoref06_Less.f (a0_0 : ByteArray) (a0_1 : ByteArray) (l0_2 : List (S34)) (a1_0 : ByteArray) (a1_1 : ByteArray) (l1_2 : List (S34)) : Option (Bool) := if (Op.bytesLess a0_0.toList a1_0.toList) = true then (some true) else (if a0_0.toList = a1_0.toList then (some (Op.bytesLess a0_1.toList a1_1.toList)) else (some false))
set_option maxHeartbeats 8000000 in
set_option maxRecDepth 100000 in
theorem majordomoref06_Less.calls (a0_0 : ByteArray) (a0_1 : ByteArray) (A0_2 : Option Addr) (c0_2 : Nat) (l0_2 : List (S34)) (a1_0 : ByteArray) (a1_1 : ByteArray) (A1_2 : Option Addr) (c1_2 : Nat) (l1_2 : List (S34)) (r : Bool) (w : World) (hr0_2 : Kd.C k34 w A0_2 l0_2.length l0_2) (hc0_2 : l0_2.length ≤ c0_2) (hr1_2 : Kd.C k34 w A1_2 l1_2.length l1_2) (hc1_2 : l1_2.length ≤ c1_2) (h : majordomoref06_Less.f a0_0 a0_1 l0_2 a1_0 a1_1 l1_2 = some r) :
 Calls Tryd.prog 16 #[.agg #[.string a0_0, .string a0_1, .slice A0_2 l0_2.length c0_2], .agg #[.string a1_0, .string a1_1, .slice A1_2 l1_2.length c1_2]] w fun e w' => e = .returned (.bool r) ∧ Below w.heap.size w w' := by
 have hu24 := Tryd.underlying24
 have HR0_2 := As.mk hr0_2
 have HC0_2 := As.mk hc0_2
 clear hr0_2 hc0_2
 have HR1_2 := As.mk hr1_2
 have HC1_2 := As.mk hc1_2
 clear hr1_2 hc1_2
 have HB := As.mk (Below.refl w.heap.size w)
 have H : (if (Op.bytesLess a0_0.toList a1_0.toList) = true then (some true) else (if a0_0.toList = a1_0.toList then (some (Op.bytesLess a0_1.toList a1_1.toList)) else (some false))) = some r := h
 clear h
 by_cases c3 : (Op.bytesLess a0_0.toList a1_0.toList) = true
 · rw [if_pos c3] at H
   have c3b0 : (Op.bytesLess a0_0.toList a1_0.toList) = true := c3
   clear c3
   obtain rfl := Option.some.inj H
   go_enter Tryd.func16, Tryd.ntmps16
   go_wp2_with (first | ((with_reducible refine gate_dst (N := 2) rfl ?_); refine box_event ?hg (N := 2) ?hd (cs := #[.string a0_0, .string a0_1, .slice A0_2 l0_2.length c0_2]) (t := 24) ?hr ?_; (case hd => rfl); (case hg => rfl); (case hr => first | (go_simp; done) | (go_simp; rfl)); intro gb326 hg w4 hbox hb; have n0_ := As.mk (bT (by repeat (first | (with_reducible first | exact HB.out | apply bA | apply bN | apply bD) | exact HB.out)) hb); have n1_ := As.mk (hbox); have n2_ := As.mk ((by rw [hg]; exact (bZ (by repeat (first | (with_reducible first | exact HB.out | apply bA | apply bN | apply bD) | exact HB.out))) : w.heap.size ≤ gb326)); have n3_ := As.mk ((by rw [hg]; exact (bZ (by repeat (first | (with_reducible first | exact HB.out | apply bA | apply bN | apply bD) | exact HB.out))) : w.heap.size ≤ gb326)); clear HB; have HB := n0_; have BK326 := n1_; have GW326 := n2_; have GE326 := n3_; clear n0_ n1_ n2_ n3_; clear hb hbox hg) | ((with_reducible refine gate_dst (N := 3) rfl ?_); refine box_event ?hg (N := 3) ?hd (cs := #[.string a1_0, .string a1_1, .slice A1_2 l1_2.length c1_2]) (t := 24) ?hr ?_; (case hd => rfl); (case hg => rfl); (case hr => first | (go_simp; done) | (go_simp; rfl)); intro gb327 hg w5 hbox hb; have n0_ := As.mk (kB (g := gb326) (o := .cells #[.string a0_0, .string a0_1, .slice A0_2 l0_2.length c0_2] 24 (0, 0)) (by (with_reducible repeat (first | refine kN ?_ _ | refine kD ?_ | refine kA ?_ _)); exact BK326.out) hb); have n1_ := As.mk (bT (by repeat (first | (with_reducible first | exact HB.out | apply bA | apply bN | apply bD | refine bS ?_ GE326.out) | exact HB.out)) hb); have n2_ := As.mk (hbox); have n3_ := As.mk ((by rw [hg]; exact (bZ (by repeat (first | (with_reducible first | exact HB.out | apply bA | apply bN | apply bD | refine bS ?_ GE326.out) | exact HB.out))) : w.heap.size ≤ gb327)); have n4_ := As.mk ((by rw [hg]; exact (bZ (by repeat (first | (with_reducible first | exact HB.out | apply bA | apply bN | apply bD | refine bS ?_ GE326.out) | exact HB.out))) : w.heap.size ≤ gb327)); have n5_ := As.mk ((by rw [hg]; exact Nat.ne_of_lt (blk_lt (g := gb326) (o := .cells #[.string a0_0, .string a0_1, .slice A0_2 l0_2.length c0_2] 24 (0, 0)) (by (with_reducible repeat (first | refine kN ?_ _ | refine kD ?_ | refine kA ?_ _)); exact BK326.out)) : gb326 ≠ gb327)); have n6_ := As.mk ((by rw [hg]; exact Nat.ne_of_gt (blk_lt (g := gb326) (o := .cells #[.string a0_0, .string a0_1, .slice A0_2 l0_2.length c0_2] 24 (0, 0)) (by (with_reducible repeat (first | refine kN ?_ _ | refine kD ?_ | refine kA ?_ _)); exact BK326.out)) : gb327 ≠ gb326)); clear BK326; clear HB; have BK326 := n0_; have HB := n1_; have BK327 := n2_; have GW327 := n3_; have GE327 := n4_; have NB326_327 := n5_; have NB327_326 := n6_; clear n0_ n1_ n2_ n3_ n4_ n5_ n6_; clear hb hbox hg; have hnb6 := NB326_327.out; have hnc6 := NB327_326.out; have hcz7_0 : w5.cell? ⟨gb326, 0, none⟩ = some (.string a0_0) := (kC BK326.out 0).trans rfl; have hcz7_1 : w5.cell? ⟨gb326, 1, none⟩ = some (.string a0_1) := (kC BK326.out 1).trans rfl; have hcz7_2 : w5.cell? ⟨gb326, 2, none⟩ = some (.slice A0_2 l0_2.length c0_2) := (kC BK326.out 2).trans rfl; have hfz7_0 := kF BK326.out 0; have hfz7_1 := kF BK326.out 1; have hfz7_2 := kF BK326.out 2; have hcz8_0 : w5.cell? ⟨gb327, 0, none⟩ = some (.string a1_0) := (kC BK327.out 0).trans rfl; have hcz8_1 : w5.cell? ⟨gb327, 1, none⟩ = some (.string a1_1) := (kC BK327.out 1).trans rfl; have hcz8_2 : w5.cell? ⟨gb327, 2, none⟩ = some (.slice A1_2 l1_2.length c1_2) := (kC BK327.out 2).trans rfl; have hfz8_0 := kF BK327.out 0; have hfz8_1 := kF BK327.out 1; have hfz8_2 := kF BK327.out 2))
   go_ret
   exact ⟨by first | rfl | (simp [errW_none, errW_some] <;> rfl) | (simp [*, errW_none, errW_some] <;> rfl), by repeat (first | (with_reducible first | exact HB.out | apply bA | apply bN | apply bD | refine bS ?_ GE326.out | refine bS ?_ GE327.out) | exact HB.out)⟩
 rw [if_neg c3] at H
 have c3b0 : (Op.bytesLess a0_0.toList a1_0.toList) = false := by simpa using c3
 clear c3
 by_cases c9 : a0_0.toList = a1_0.toList
 rotate_left
 · rw [if_neg c9] at H
   have c9b0 : (a0_0.toList == a1_0.toList) = false := beq_eq_false_iff_ne.mpr c9
   have c9b1 : (a0_0.toList != a1_0.toList) = true := bne_iff_ne.mpr c9
   obtain rfl := Option.some.inj H
   go_enter Tryd.func16, Tryd.ntmps16
   go_wp2_with (first | ((with_reducible refine gate_dst (N := 2) rfl ?_); refine box_event ?hg (N := 2) ?hd (cs := #[.string a0_0, .string a0_1, .slice A0_2 l0_2.length c0_2]) (t := 24) ?hr ?_; (case hd => rfl); (case hg => rfl); (case hr => first | (go_simp; done) | (go_simp; rfl)); intro gb326 hg w15 hbox hb; have n0_ := As.mk (bT (by repeat (first | (with_reducible first | exact HB.out | apply bA | apply bN | apply bD) | exact HB.out)) hb); have n1_ := As.mk (hbox); have n2_ := As.mk ((by rw [hg]; exact (bZ (by repeat (first | (with_reducible first | exact HB.out | apply bA | apply bN | apply bD) | exact HB.out))) : w.heap.size ≤ gb326)); have n3_ := As.mk ((by rw [hg]; exact (bZ (by repeat (first | (with_reducible first | exact HB.out | apply bA | apply bN | apply bD) | exact HB.out))) : w.heap.size ≤ gb326)); clear HB; have HB := n0_; have BK326 := n1_; have GW326 := n2_; have GE326 := n3_; clear n0_ n1_ n2_ n3_; clear hb hbox hg) | ((with_reducible refine gate_dst (N := 3) rfl ?_); refine box_event ?hg (N := 3) ?hd (cs := #[.string a1_0, .string a1_1, .slice A1_2 l1_2.length c1_2]) (t := 24) ?hr ?_; (case hd => rfl); (case hg => rfl); (case hr => first | (go_simp; done) | (go_simp; rfl)); intro gb327 hg w16 hbox hb; have n0_ := As.mk (kB (g := gb326) (o := .cells #[.string a0_0, .string a0_1, .slice A0_2 l0_2.length c0_2] 24 (0, 0)) (by (with_reducible repeat (first | refine kN ?_ _ | refine kD ?_ | refine kA ?_ _)); exact BK326.out) hb); have n1_ := As.mk (bT (by repeat (first | (with_reducible first | exact HB.out | apply bA | apply bN | apply bD | refine bS ?_ GE326.out) | exact HB.out)) hb); have n2_ := As.mk (hbox); have n3_ := As.mk ((by rw [hg]; exact (bZ (by repeat (first | (with_reducible first | exact HB.out | apply bA | apply bN | apply bD | refine bS ?_ GE326.out) | exact HB.out))) : w.heap.size ≤ gb327)); have n4_ := As.mk ((by rw [hg]; exact (bZ (by repeat (first | (with_reducible first | exact HB.out | apply bA | apply bN | apply bD | refine bS ?_ GE326.out) | exact HB.out))) : w.heap.size ≤ gb327)); have n5_ := As.mk ((by rw [hg]; exact Nat.ne_of_lt (blk_lt (g := gb326) (o := .cells #[.string a0_0, .string a0_1, .slice A0_2 l0_2.length c0_2] 24 (0, 0)) (by (with_reducible repeat (first | refine kN ?_ _ | refine kD ?_ | refine kA ?_ _)); exact BK326.out)) : gb326 ≠ gb327)); have n6_ := As.mk ((by rw [hg]; exact Nat.ne_of_gt (blk_lt (g := gb326) (o := .cells #[.string a0_0, .string a0_1, .slice A0_2 l0_2.length c0_2] 24 (0, 0)) (by (with_reducible repeat (first | refine kN ?_ _ | refine kD ?_ | refine kA ?_ _)); exact BK326.out)) : gb327 ≠ gb326)); clear BK326; clear HB; have BK326 := n0_; have HB := n1_; have BK327 := n2_; have GW327 := n3_; have GE327 := n4_; have NB326_327 := n5_; have NB327_326 := n6_; clear n0_ n1_ n2_ n3_ n4_ n5_ n6_; clear hb hbox hg; have hnb17 := NB326_327.out; have hnc17 := NB327_326.out; have hcz18_0 : w16.cell? ⟨gb326, 0, none⟩ = some (.string a0_0) := (kC BK326.out 0).trans rfl; have hcz18_1 : w16.cell? ⟨gb326, 1, none⟩ = some (.string a0_1) := (kC BK326.out 1).trans rfl; have hcz18_2 : w16.cell? ⟨gb326, 2, none⟩ = some (.slice A0_2 l0_2.length c0_2) := (kC BK326.out 2).trans rfl; have hfz18_0 := kF BK326.out 0; have hfz18_1 := kF BK326.out 1; have hfz18_2 := kF BK326.out 2; have hcz19_0 : w16.cell? ⟨gb327, 0, none⟩ = some (.string a1_0) := (kC BK327.out 0).trans rfl; have hcz19_1 : w16.cell? ⟨gb327, 1, none⟩ = some (.string a1_1) := (kC BK327.out 1).trans rfl; have hcz19_2 : w16.cell? ⟨gb327, 2, none⟩ = some (.slice A1_2 l1_2.length c1_2) := (kC BK327.out 2).trans rfl; have hfz19_0 := kF BK327.out 0; have hfz19_1 := kF BK327.out 1; have hfz19_2 := kF BK327.out 2))
   go_ret
   exact ⟨by first | rfl | (simp [errW_none, errW_some] <;> rfl) | (simp [*, errW_none, errW_some] <;> rfl), by repeat (first | (with_reducible first | exact HB.out | apply bA | apply bN | apply bD | refine bS ?_ GE326.out | refine bS ?_ GE327.out) | exact HB.out)⟩
 rw [if_pos c9] at H
 have c9b0 : (a0_0.toList == a1_0.toList) = true := beq_iff_eq.mpr c9
 have c9b1 : (a0_0.toList != a1_0.toList) = false := bne_eq_false_iff_eq.mpr c9
 clear c9
 obtain rfl := Option.some.inj H
 go_enter Tryd.func16, Tryd.ntmps16
 go_wp2_with (first | ((with_reducible refine gate_dst (N := 2) rfl ?_); refine box_event ?hg (N := 2) ?hd (cs := #[.string a0_0, .string a0_1, .slice A0_2 l0_2.length c0_2]) (t := 24) ?hr ?_; (case hd => rfl); (case hg => rfl); (case hr => first | (go_simp; done) | (go_simp; rfl)); intro gb326 hg w10 hbox hb; have n0_ := As.mk (bT (by repeat (first | (with_reducible first | exact HB.out | apply bA | apply bN | apply bD) | exact HB.out)) hb); have n1_ := As.mk (hbox); have n2_ := As.mk ((by rw [hg]; exact (bZ (by repeat (first | (with_reducible first | exact HB.out | apply bA | apply bN | apply bD) | exact HB.out))) : w.heap.size ≤ gb326)); have n3_ := As.mk ((by rw [hg]; exact (bZ (by repeat (first | (with_reducible first | exact HB.out | apply bA | apply bN | apply bD) | exact HB.out))) : w.heap.size ≤ gb326)); clear HB; have HB := n0_; have BK326 := n1_; have GW326 := n2_; have GE326 := n3_; clear n0_ n1_ n2_ n3_; clear hb hbox hg) | ((with_reducible refine gate_dst (N := 3) rfl ?_); refine box_event ?hg (N := 3) ?hd (cs := #[.string a1_0, .string a1_1, .slice A1_2 l1_2.length c1_2]) (t := 24) ?hr ?_; (case hd => rfl); (case hg => rfl); (case hr => first | (go_simp; done) | (go_simp; rfl)); intro gb327 hg w11 hbox hb; have n0_ := As.mk (kB (g := gb326) (o := .cells #[.string a0_0, .string a0_1, .slice A0_2 l0_2.length c0_2] 24 (0, 0)) (by (with_reducible repeat (first | refine kN ?_ _ | refine kD ?_ | refine kA ?_ _)); exact BK326.out) hb); have n1_ := As.mk (bT (by repeat (first | (with_reducible first | exact HB.out | apply bA | apply bN | apply bD | refine bS ?_ GE326.out) | exact HB.out)) hb); have n2_ := As.mk (hbox); have n3_ := As.mk ((by rw [hg]; exact (bZ (by repeat (first | (with_reducible first | exact HB.out | apply bA | apply bN | apply bD | refine bS ?_ GE326.out) | exact HB.out))) : w.heap.size ≤ gb327)); have n4_ := As.mk ((by rw [hg]; exact (bZ (by repeat (first | (with_reducible first | exact HB.out | apply bA | apply bN | apply bD | refine bS ?_ GE326.out) | exact HB.out))) : w.heap.size ≤ gb327)); have n5_ := As.mk ((by rw [hg]; exact Nat.ne_of_lt (blk_lt (g := gb326) (o := .cells #[.string a0_0, .string a0_1, .slice A0_2 l0_2.length c0_2] 24 (0, 0)) (by (with_reducible repeat (first | refine kN ?_ _ | refine kD ?_ | refine kA ?_ _)); exact BK326.out)) : gb326 ≠ gb327)); have n6_ := As.mk ((by rw [hg]; exact Nat.ne_of_gt (blk_lt (g := gb326) (o := .cells #[.string a0_0, .string a0_1, .slice A0_2 l0_2.length c0_2] 24 (0, 0)) (by (with_reducible repeat (first | refine kN ?_ _ | refine kD ?_ | refine kA ?_ _)); exact BK326.out)) : gb327 ≠ gb326)); clear BK326; clear HB; have BK326 := n0_; have HB := n1_; have BK327 := n2_; have GW327 := n3_; have GE327 := n4_; have NB326_327 := n5_; have NB327_326 := n6_; clear n0_ n1_ n2_ n3_ n4_ n5_ n6_; clear hb hbox hg; have hnb12 := NB326_327.out; have hnc12 := NB327_326.out; have hcz13_0 : w11.cell? ⟨gb326, 0, none⟩ = some (.string a0_0) := (kC BK326.out 0).trans rfl; have hcz13_1 : w11.cell? ⟨gb326, 1, none⟩ = some (.string a0_1) := (kC BK326.out 1).trans rfl; have hcz13_2 : w11.cell? ⟨gb326, 2, none⟩ = some (.slice A0_2 l0_2.length c0_2) := (kC BK326.out 2).trans rfl; have hfz13_0 := kF BK326.out 0; have hfz13_1 := kF BK326.out 1; have hfz13_2 := kF BK326.out 2; have hcz14_0 : w11.cell? ⟨gb327, 0, none⟩ = some (.string a1_0) := (kC BK327.out 0).trans rfl; have hcz14_1 : w11.cell? ⟨gb327, 1, none⟩ = some (.string a1_1) := (kC BK327.out 1).trans rfl; have hcz14_2 : w11.cell? ⟨gb327, 2, none⟩ = some (.slice A1_2 l1_2.length c1_2) := (kC BK327.out 2).trans rfl; have hfz14_0 := kF BK327.out 0; have hfz14_1 := kF BK327.out 1; have hfz14_2 := kF BK327.out 2))
 go_ret
 exact ⟨by first | rfl | (simp [errW_none, errW_some] <;> rfl) | (simp [*, errW_none, errW_some] <;> rfl), by repeat (first | (with_reducible first | exact HB.out | apply bA | apply bN | apply bD | refine bS ?_ GE326.out | refine bS ?_ GE327.out) | exact HB.out)⟩
end Go.Proofs.YtkgafkoopefghaaDoor.PA
end
