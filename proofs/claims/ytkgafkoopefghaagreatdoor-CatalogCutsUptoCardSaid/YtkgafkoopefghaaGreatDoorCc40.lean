/- A part of this law; its conditions stand in the last text. -/
import Derived.Test.YtkgafkoopefghaaGreatDoorCc25
import Derived.Test.YtkgafkoopefghaaGreatDoorCc6
import Derived.Test.YtkgafkoopefghaaGreatDoorCc9
import Derived.Test.YtkgafkoopefghaaGreatDoorCc32
import Derived.Test.YtkgafkoopefghaaGreatDoorCc39
import Derived.Test.YtkgafkoopefghaaGreatDoorCc37
section
namespace Go.Proofs.YtkgafkoopefghaaGreatDoor.PA
open Go.RowKit Go.Proofs.YtkgafkoopefghaaGreatDoorW.PrintWords Go.Proofs.YtkgafkoopefghaaGreatDoorW.PrintLast Go.Proofs.YtkgafkoopefghaaGreatDoorW.PrintMore
open Go.Proofs.YtkgafkoopefghaaGreatDoor.Hk
attribute [local go_sem high] Go.Proofs.YtkgafkoopefghaaGreatDoor.Hk.binOp_leq_not
attribute [local go_sem] max2_int min2_int max_two min_two max_three min_three max_four min_four
set_option linter.unusedVariables false
set_option linter.unusedSimpArgs false
def catalog_Encode.f (k : Nat) (a0_0 : Int) (a0_1 : ByteArray) (l0_2 : List (S24)) (l0_3 : List (S50)) : Option (List Int × Int) := (catalog_Check.f k a0_0 a0_1 l0_2 l0_3).bind fun t316 => (if t316 = 0 then ((catalog_bytes.f a0_0 a0_1 l0_2 l0_3).bind fun t317 => (some (t317, 0))) else (some (([] : List Int), t316)))
set_option maxHeartbeats 8000000 in
set_option maxRecDepth 100000 in
theorem catalog_Encode.calls (k : Nat) (a0_0 : Int) (a0_1 : ByteArray) (A0_2 : Option Addr) (c0_2 : Nat) (l0_2 : List (S24)) (A0_3 : Option Addr) (c0_3 : Nat) (l0_3 : List (S50)) (r1 : List Int) (r2 : Int) (w : World) (hr0_2 : Kd.C k24 w A0_2 l0_2.length l0_2) (hc0_2 : l0_2.length ≤ c0_2) (hr0_3 : Kd.C k50 w A0_3 l0_3.length l0_3) (hc0_3 : l0_3.length ≤ c0_3) (h : catalog_Encode.f k a0_0 a0_1 l0_2 l0_3 = some (r1, r2)) (hU : UtfOk w) :
    Calls Tryz.prog 18 #[.agg #[.int .i64 a0_0, .string a0_1, .slice A0_2 l0_2.length c0_2, .slice A0_3 l0_3.length c0_3]] w fun e w' => ∃ v0_ : Value, e = .returned (.tuple #[v0_, .int .i64 r2]) ∧ Kd.R (Kd.int .u8) 5 w' w.heap.size (fun _ => True) v0_ r1 ∧ Below w.heap.size w w' := by
  have HU := As.mk hU
  clear hU
  have hu37 := Tryz.underlying37
  have HR0_2 := As.mk hr0_2
  have HC0_2 := As.mk hc0_2
  clear hr0_2 hc0_2
  have HR0_3 := As.mk hr0_3
  have HC0_3 := As.mk hc0_3
  clear hr0_3 hc0_3
  have HB := As.mk (Below.refl w.heap.size w)
  have H : ((catalog_Check.f k a0_0 a0_1 l0_2 l0_3).bind fun t316 => (if t316 = 0 then ((catalog_bytes.f a0_0 a0_1 l0_2 l0_3).bind fun t317 => (some (t317, 0))) else (some (([] : List Int), t316)))) = some (r1, r2) := h
  clear h
  replace H := Option.bind_eq_some_iff.mp H
  obtain ⟨t316, A20, H⟩ := H
  replace H : (if t316 = 0 then ((catalog_bytes.f a0_0 a0_1 l0_2 l0_3).bind fun t317 => (some (t317, 0))) else (some (([] : List Int), t316))) = some (r1, r2) := H
  have A2 := As.mk A20
  clear A20
  by_cases c3 : t316 = 0
  · rw [if_pos c3] at H
    have c3b0 : (t316 == 0) = true := beq_iff_eq.mpr c3
    have c3b1 : (t316 != 0) = false := bne_eq_false_iff_eq.mpr c3
    clear c3
    replace H := Option.bind_eq_some_iff.mp H
    obtain ⟨t317, A40, H⟩ := H
    replace H : (some (t317, 0)) = some (r1, r2) := H
    have A4 := As.mk A40
    clear A40
    simp only [Option.some.injEq, Prod.mk.injEq] at H
    obtain ⟨rfl, rfl⟩ := H
    go_enter Tryz.func18, Tryz.ntmps18
    go_wp2_with (first | ((with_reducible refine gate_dst (N := 1) rfl ?_); refine box_event ?hg (N := 1) ?hd (cs := #[.int .i64 a0_0, .string a0_1, .slice A0_2 l0_2.length c0_2, .slice A0_3 l0_3.length c0_3]) (t := 37) ?hr ?_; (case hd => rfl); (case hg => rfl); (case hr => first | (go_simp; done) | (go_simp; rfl)); intro gb315 hg w5 hbox hb; have n0_ := As.mk (bT (by repeat (first | (with_reducible first | exact HB.out | apply bA | apply bN | apply bD) | exact HB.out)) hb); have n1_ := As.mk (hbox); have n2_ := As.mk ((by rw [hg]; exact (bZ (by repeat (first | (with_reducible first | exact HB.out | apply bA | apply bN | apply bD) | exact HB.out))) : w.heap.size ≤ gb315)); have n3_ := As.mk ((by rw [hg]; exact (bZ (by repeat (first | (with_reducible first | exact HB.out | apply bA | apply bN | apply bD) | exact HB.out))) : w.heap.size ≤ gb315)); clear HB; have HB := n0_; have BK315 := n1_; have GW315 := n2_; have GE315 := n3_; clear n0_ n1_ n2_ n3_; clear hb hbox hg; have hcz6_0 : w5.cell? ⟨gb315, 0, none⟩ = some (.int .i64 a0_0) := (kC BK315.out 0).trans rfl; have hcz6_1 : w5.cell? ⟨gb315, 1, none⟩ = some (.string a0_1) := (kC BK315.out 1).trans rfl; have hcz6_2 : w5.cell? ⟨gb315, 2, none⟩ = some (.slice A0_2 l0_2.length c0_2) := (kC BK315.out 2).trans rfl; have hcz6_3 : w5.cell? ⟨gb315, 3, none⟩ = some (.slice A0_3 l0_3.length c0_3) := (kC BK315.out 3).trans rfl; have hfz6_0 := kF BK315.out 0; have hfz6_1 := kF BK315.out 1; have hfz6_2 := kF BK315.out 2; have hfz6_3 := kF BK315.out 3) | ((with_reducible refine gate_callee (f := 21) rfl ?_); refine goesL_ (some 6) rfl rfl Tryz.func21 (by kernel_rfl) rfl #[.agg #[.int .i64 a0_0, .string a0_1, .slice A0_2 l0_2.length c0_2, .slice A0_3 l0_3.length c0_3]] rfl (by (try simp only [List.map_toArray, List.map_cons, List.map_nil]); first | done | rfl | (simp only [List.length_drop, List.length_take]; rfl)) ?_; (with_reducible refine (catalog_Check.calls k a0_0 a0_1 _ _ l0_2 _ _ l0_3 t316 _ ?side1 ?side2 ?side3 ?side4 A2.out (UtfOk.of_below HU.out (by repeat (first | (with_reducible first | exact HB.out | apply bA | apply bN | apply bD | refine bS ?_ GE315.out) | exact HB.out)))).mono ?_); (case side1 => repeat (first | exact (Kd.C_below HR0_2.out HB.out) | (with_reducible refine Kd.C_alloc ?_ _) | (with_reducible refine Kd.C_drewN ?_ _) | (with_reducible refine Kd.C_drew ?_))); (case side2 => exact HC0_2.out); (case side3 => repeat (first | exact (Kd.C_below HR0_3.out HB.out) | (with_reducible refine Kd.C_alloc ?_ _) | (with_reducible refine Kd.C_drewN ?_ _) | (with_reducible refine Kd.C_drew ?_))); (case side4 => exact HC0_3.out); rintro e w7 ⟨rfl, hb⟩; refine ⟨_, rfl, ?_⟩; have n0_ := As.mk (kB (g := gb315) (o := .cells #[.int .i64 a0_0, .string a0_1, .slice A0_2 l0_2.length c0_2, .slice A0_3 l0_3.length c0_3] 37 (0, 0)) (by (with_reducible repeat (first | refine kN ?_ _ | refine kD ?_ | refine kA ?_ _)); exact BK315.out) hb); have n1_ := As.mk (bT (by repeat (first | (with_reducible first | exact HB.out | apply bA | apply bN | apply bD | refine bS ?_ GE315.out) | exact HB.out)) hb); clear BK315; clear HB; have BK315 := n0_; have HB := n1_; clear n0_ n1_; (try clear hb); (try clear hb2); (try clear hk); (try clear hi); have hcz8_0 : w7.cell? ⟨gb315, 0, none⟩ = some (.int .i64 a0_0) := (kC BK315.out 0).trans rfl; have hcz8_1 : w7.cell? ⟨gb315, 1, none⟩ = some (.string a0_1) := (kC BK315.out 1).trans rfl; have hcz8_2 : w7.cell? ⟨gb315, 2, none⟩ = some (.slice A0_2 l0_2.length c0_2) := (kC BK315.out 2).trans rfl; have hcz8_3 : w7.cell? ⟨gb315, 3, none⟩ = some (.slice A0_3 l0_3.length c0_3) := (kC BK315.out 3).trans rfl; have hfz8_0 := kF BK315.out 0; have hfz8_1 := kF BK315.out 1; have hfz8_2 := kF BK315.out 2; have hfz8_3 := kF BK315.out 3) | ((with_reducible refine gate_callee (f := 37) rfl ?_); refine goesL_ (some 11) rfl rfl Tryz.func37 (by kernel_rfl) rfl #[.agg #[.int .i64 a0_0, .string a0_1, .slice A0_2 l0_2.length c0_2, .slice A0_3 l0_3.length c0_3]] rfl (by (try simp only [List.map_toArray, List.map_cons, List.map_nil]); first | done | rfl | (simp only [List.length_drop, List.length_take]; rfl)) ?_; (with_reducible refine (catalog_bytes.calls a0_0 a0_1 _ _ l0_2 _ _ l0_3 t317 _ ?side1 ?side2 ?side3 ?side4 A4.out).mono ?_); (case side1 => repeat (first | exact (Kd.C_below HR0_2.out HB.out) | (with_reducible refine Kd.C_alloc ?_ _) | (with_reducible refine Kd.C_drewN ?_ _) | (with_reducible refine Kd.C_drew ?_))); (case side2 => exact HC0_2.out); (case side3 => repeat (first | exact (Kd.C_below HR0_3.out HB.out) | (with_reducible refine Kd.C_alloc ?_ _) | (with_reducible refine Kd.C_drewN ?_ _) | (with_reducible refine Kd.C_drew ?_))); (case side4 => exact HC0_3.out); rintro e w9 ⟨v318, rfl, ho0, hb⟩; refine ⟨_, rfl, ?_⟩; have n0_ := As.mk (Kd.R_lower ho0 (bZ (by repeat (first | (with_reducible first | exact HB.out | apply bA | apply bN | apply bD | refine bS ?_ GE315.out) | exact HB.out)))); have n1_ := As.mk (kB (g := gb315) (o := .cells #[.int .i64 a0_0, .string a0_1, .slice A0_2 l0_2.length c0_2, .slice A0_3 l0_3.length c0_3] 37 (0, 0)) (by (with_reducible repeat (first | refine kN ?_ _ | refine kD ?_ | refine kA ?_ _)); exact BK315.out) hb); have n2_ := As.mk (bT (by repeat (first | (with_reducible first | exact HB.out | apply bA | apply bN | apply bD | refine bS ?_ GE315.out) | exact HB.out)) hb); clear BK315; clear HB; have HO319 := n0_; have BK315 := n1_; have HB := n2_; clear n0_ n1_ n2_; (try clear hb); (try clear hb2); (try clear hk); (try clear hi); (try clear ho0)))
    go_ret2
    exact ⟨_, by first | rfl | (simp [errW_none, errW_some] <;> rfl) | (simp [*, errW_none, errW_some] <;> rfl), by (with_reducible repeat (first | apply Kd.R_alloc | apply Kd.R_drewN | apply Kd.R_drew)); exact HO319.out, by repeat (first | (with_reducible first | exact HB.out | apply bA | apply bN | apply bD | refine bS ?_ GE315.out) | exact HB.out)⟩
  · rw [if_neg c3] at H
    have c3b0 : (t316 == 0) = false := beq_eq_false_iff_ne.mpr c3
    have c3b1 : (t316 != 0) = true := bne_iff_ne.mpr c3
    simp only [Option.some.injEq, Prod.mk.injEq] at H
    obtain ⟨rfl, rfl⟩ := H
    go_enter Tryz.func18, Tryz.ntmps18
    go_wp2_with (first | ((with_reducible refine gate_dst (N := 1) rfl ?_); refine box_event ?hg (N := 1) ?hd (cs := #[.int .i64 a0_0, .string a0_1, .slice A0_2 l0_2.length c0_2, .slice A0_3 l0_3.length c0_3]) (t := 37) ?hr ?_; (case hd => rfl); (case hg => rfl); (case hr => first | (go_simp; done) | (go_simp; rfl)); intro gb315 hg w10 hbox hb; have n0_ := As.mk (bT (by repeat (first | (with_reducible first | exact HB.out | apply bA | apply bN | apply bD) | exact HB.out)) hb); have n1_ := As.mk (hbox); have n2_ := As.mk ((by rw [hg]; exact (bZ (by repeat (first | (with_reducible first | exact HB.out | apply bA | apply bN | apply bD) | exact HB.out))) : w.heap.size ≤ gb315)); have n3_ := As.mk ((by rw [hg]; exact (bZ (by repeat (first | (with_reducible first | exact HB.out | apply bA | apply bN | apply bD) | exact HB.out))) : w.heap.size ≤ gb315)); clear HB; have HB := n0_; have BK315 := n1_; have GW315 := n2_; have GE315 := n3_; clear n0_ n1_ n2_ n3_; clear hb hbox hg; have hcz11_0 : w10.cell? ⟨gb315, 0, none⟩ = some (.int .i64 a0_0) := (kC BK315.out 0).trans rfl; have hcz11_1 : w10.cell? ⟨gb315, 1, none⟩ = some (.string a0_1) := (kC BK315.out 1).trans rfl; have hcz11_2 : w10.cell? ⟨gb315, 2, none⟩ = some (.slice A0_2 l0_2.length c0_2) := (kC BK315.out 2).trans rfl; have hcz11_3 : w10.cell? ⟨gb315, 3, none⟩ = some (.slice A0_3 l0_3.length c0_3) := (kC BK315.out 3).trans rfl; have hfz11_0 := kF BK315.out 0; have hfz11_1 := kF BK315.out 1; have hfz11_2 := kF BK315.out 2; have hfz11_3 := kF BK315.out 3) | ((with_reducible refine gate_callee (f := 21) rfl ?_); refine goesL_ (some 6) rfl rfl Tryz.func21 (by kernel_rfl) rfl #[.agg #[.int .i64 a0_0, .string a0_1, .slice A0_2 l0_2.length c0_2, .slice A0_3 l0_3.length c0_3]] rfl (by (try simp only [List.map_toArray, List.map_cons, List.map_nil]); first | done | rfl | (simp only [List.length_drop, List.length_take]; rfl)) ?_; (with_reducible refine (catalog_Check.calls k a0_0 a0_1 _ _ l0_2 _ _ l0_3 t316 _ ?side1 ?side2 ?side3 ?side4 A2.out (UtfOk.of_below HU.out (by repeat (first | (with_reducible first | exact HB.out | apply bA | apply bN | apply bD | refine bS ?_ GE315.out) | exact HB.out)))).mono ?_); (case side1 => repeat (first | exact (Kd.C_below HR0_2.out HB.out) | (with_reducible refine Kd.C_alloc ?_ _) | (with_reducible refine Kd.C_drewN ?_ _) | (with_reducible refine Kd.C_drew ?_))); (case side2 => exact HC0_2.out); (case side3 => repeat (first | exact (Kd.C_below HR0_3.out HB.out) | (with_reducible refine Kd.C_alloc ?_ _) | (with_reducible refine Kd.C_drewN ?_ _) | (with_reducible refine Kd.C_drew ?_))); (case side4 => exact HC0_3.out); rintro e w12 ⟨rfl, hb⟩; refine ⟨_, rfl, ?_⟩; have n0_ := As.mk (kB (g := gb315) (o := .cells #[.int .i64 a0_0, .string a0_1, .slice A0_2 l0_2.length c0_2, .slice A0_3 l0_3.length c0_3] 37 (0, 0)) (by (with_reducible repeat (first | refine kN ?_ _ | refine kD ?_ | refine kA ?_ _)); exact BK315.out) hb); have n1_ := As.mk (bT (by repeat (first | (with_reducible first | exact HB.out | apply bA | apply bN | apply bD | refine bS ?_ GE315.out) | exact HB.out)) hb); clear BK315; clear HB; have BK315 := n0_; have HB := n1_; clear n0_ n1_; (try clear hb); (try clear hb2); (try clear hk); (try clear hi)))
    go_ret2
    exact ⟨_, by first | rfl | (simp [errW_none, errW_some] <;> rfl) | (simp [*, errW_none, errW_some] <;> rfl), by first | exact Kd.R_nil _ _ _ _ _ | exact Kd.N_nil _ _ _ _ _ | exact Kd.V_nil _ _ _ _ _ | exact Kd.Q_nil _ _ _ _ _ | exact Kd.S_nil _ _ _ _ _, by repeat (first | (with_reducible first | exact HB.out | apply bA | apply bN | apply bD | refine bS ?_ GE315.out) | exact HB.out)⟩
end Go.Proofs.YtkgafkoopefghaaGreatDoor.PA
end
section
set_option linter.unusedVariables false
set_option linter.unusedSimpArgs false
namespace Go.Proofs.YtkgafkoopefghaaGreatDoor.PA
open Go.RowKit Go.Maps Go.WideMaps Go.Proofs.YtkgafkoopefghaaGreatDoor.Hk Go.Proofs.YtkgafkoopefghaaGreatDoorW.PrintWords
def encC (v : Int) (node : ByteArray) (R : List S24) (E : List S50) : List Int × Int := if checkC v node R E = 0 then (bytesC v node R E, 0) else ([], checkC v node R E)
theorem enc_ev {v : Int} {node : ByteArray} {R : List S24} {E : List S50} (h : fitC v node R E = true) : Ev (fun k => catalog_Encode.f k v node R E) (encC v node R E) := by
  unfold catalog_Encode.f encC
  refine Ev.bind (check_ev h) ?_
  by_cases c : checkC v node R E = 0
  · simp only [if_pos c, bytes_f h, Option.bind_some]
    exact Ev.now _
  · simp only [if_neg c]
    exact Ev.now _
def isCat (xs : List Int) : Prop := ∃ v node R E, checkC v node R E = 0 ∧ bytesC v node R E = xs
open Classical in
noncomputable def decE (xs : List Int) : Int := if isCat xs then 0 else 70
theorem decE_yes {xs : List Int} (h : isCat xs) : decE xs = 0 := by unfold decE; rw [if_pos h]
theorem decE_no {xs : List Int} (h : ¬ isCat xs) : decE xs = 70 := by unfold decE; rw [if_neg h]
theorem cut_none {v : Int} {node : ByteArray} {R : List S24} {E : List S50} (h : checkC v node R E = 0) {n : Nat} (hn : n < (bytesC v node R E).length) : decE ((bytesC v node R E).take n) = 70 := by
  refine decE_no ?_
  rintro ⟨v', node', R', E', h', e⟩
  have q : bytesC v' node' R' E' ++ (bytesC v node R E).drop n = bytesC v node R E ++ [] := by rw [e, List.take_append_drop, List.append_nil]
  obtain ⟨_, _, _, _, z⟩ := bytesC_un h' h q
  have := congrArg List.length z
  rw [List.length_drop, List.length_nil] at this
  omega
theorem behind_none {v : Int} {node : ByteArray} {R : List S24} {E : List S50} (h : checkC v node R E = 0) {ys : List Int} (hy : ys ≠ []) : decE (bytesC v node R E ++ ys) = 70 := by
  refine decE_no ?_
  rintro ⟨v', node', R', E', h', e⟩
  have q : bytesC v' node' R' E' ++ [] = bytesC v node R E ++ ys := by rw [List.append_nil, e]
  obtain ⟨_, _, _, _, z⟩ := bytesC_un h' h q
  exact hy z.symm
end Go.Proofs.YtkgafkoopefghaaGreatDoor.PA
end
section
set_option linter.unusedVariables false
set_option linter.unusedSimpArgs false
namespace Go.Proofs.YtkgafkoopefghaaGreatDoor.PA
open Go.RowKit Go.Proofs.YtkgafkoopefghaaGreatDoor.Hk Go.Proofs.YtkgafkoopefghaaGreatDoorW.PrintWords Go.Proofs.YtkgafkoopefghaaGreatDoorW.PrintLast
theorem encC_inB (v : Int) (n : ByteArray) (R : List S24) (E : List S50) : inB (encC v n R E).1 := by
  unfold encC
  split
  · exact inB_cat _ _ _ _
  · exact fun x hx => by cases hx
theorem encC_is {v : Int} {n : ByteArray} {R : List S24} {E : List S50} {xs : List Int} (h : (encC v n R E).2 = 0) (h1 : (encC v n R E).1 = xs) : isCat xs := by
  unfold encC at h h1
  by_cases c : checkC v n R E = 0
  · rw [if_pos c] at h1; exact ⟨v, n, R, E, c, h1⟩
  · rw [if_neg c] at h; exact absurd h c
theorem flat_le {α : Type} {f : α → List Int} (m : Nat) : ∀ {l : List α}, (∀ a, a ∈ l → (f a).length ≤ m) → (l.flatMap f).length ≤ l.length * m
  | [], _ => by simp
  | a :: l, h => by
    have h1 := h a (by simp)
    have h2 := flat_le m (l := l) (fun b hb => h b (by simp [hb]))
    rw [List.flatMap_cons, List.length_append, List.length_cons, Nat.add_mul]
    omega
theorem fit_of_Q {v : Int} {n : ByteArray} {R : List S24} {E : List S50} (h : fitQ R E) (hv : 0 ≤ v ∧ v < 65536) (hn : n.size < 65536) : fitC v n R E = true := by
  obtain ⟨h1, h2, h3⟩ := h
  have hp : ∀ s, s ∈ R → (s.f2.flatMap parC).length ≤ 255 * 131074 := fun s hs => by
    have h4 := (h3 s hs).2.2
    refine Nat.le_trans (flat_le (f := parC) 131074 (fun p hp => ?_)) (Nat.mul_le_mul_right _ h4.1)
    have := h4.2 p hp
    unfold parC
    rw [List.length_append, txtC_len, txtC_len]
    omega
  have hr : (R.flatMap resC).length ≤ 255 * 33500000 := Nat.le_trans (flat_le (f := resC) 33500000 (fun s hs => by
    have := hp s hs
    have h4 := h3 s hs
    unfold resC
    simp only [List.length_append, List.length_cons, List.length_nil, txtC_len]
    have := h4.2.1
    omega)) (Nat.mul_le_mul_right _ h1)
  have he : (E.flatMap edgeC).length ≤ 255 * 3 := Nat.le_trans (flat_le (f := edgeC) 3 (fun x _ => Nat.le_refl _)) (Nat.mul_le_mul_right _ h2)
  unfold fitC fitR
  simp only [Bool.and_eq_true, decide_eq_true_eq, List.all_eq_true]
  refine ⟨⟨⟨by omega, by omega, fun s hs => ?_⟩, by omega⟩, ?_⟩
  · have h4 := h3 s hs
    refine ⟨⟨⟨by have := h4.1; omega, by have := h4.2.1; omega⟩, by have := h4.2.2.1; omega⟩, ?_⟩
    unfold fitP
    simp only [Bool.and_eq_true, decide_eq_true_eq, List.all_eq_true]
    exact fun p hp => by have := h4.2.2.2 p hp; omega
  · rw [bytesC_len]; omega
set_option maxRecDepth 100000 in
set_option maxHeartbeats 8000000 in
theorem dec_calls (A : Option Addr) (c : Nat) (xs : List Int) (w : World) (hr : ReadsInt w .u8 A xs.length xs) (hc : xs.length ≤ c) (hl : xs.length < 2147483648) (hi : ∀ x, x ∈ xs → 0 ≤ x ∧ x < 256) (hU : UtfOk w) :
    Calls Tryz.prog 23 #[.slice A xs.length c] w fun e w' => ∃ d0 d1 D2 dn2 dc2 D3 dn3 dc3 e5, e = .returned (.tuple #[.agg #[.int .i64 d0, .string d1, .slice D2 dn2 dc2, .slice D3 dn3 dc3], .int .i64 e5]) ∧ (e5 = 70 ∨ (e5 = 0 ∧ isCat xs)) ∧ Below w.heap.size w w' := by
  have HR := As.mk (show ReadsInt w .u8 A xs.length xs from hr)
  have HCC := As.mk hc
  have HL := As.mk hl
  have HI := As.mk hi
  have HU := As.mk hU
  clear hr hc hl hi hU
  have hu37 := Tryz.underlying37
  have HB := As.mk (Below.refl w.heap.size w)
  go_enter Tryz.func23, Tryz.ntmps23
  go_upto_region 3 with (first | ((with_reducible refine gate_dst (N := 2) rfl ?_); refine box_event ?hg (N := 2) ?hd (cs := #[.int .i64 0, .string (⟨#[]⟩ : ByteArray), .slice none 0 0, .slice none 0 0]) (t := 37) ?hr ?_; (case hd => rfl); (case hg => rfl); (case hr => first | (go_simp; done) | (go_simp; rfl)); intro g2 hg w1 hbox hb; have GE2 := As.mk ((by rw [hg]; exact HB.out.size) : w.heap.size ≤ g2); have n1 := As.mk (bT HB.out hb); clear HB; have HB := n1; clear n1; have BK2 := As.mk hbox; clear hb hbox hg; have mg2_0 : w1.cell? ⟨g2, 0, none⟩ = some (.int .i64 0) := (kC BK2.out 0).trans rfl; have fg2_0 := kF BK2.out 0; have mg2_1 : w1.cell? ⟨g2, 1, none⟩ = some (.string (⟨#[]⟩ : ByteArray)) := (kC BK2.out 1).trans rfl; have fg2_1 := kF BK2.out 1; have mg2_2 : w1.cell? ⟨g2, 2, none⟩ = some (.slice none 0 0) := (kC BK2.out 2).trans rfl; have fg2_2 := kF BK2.out 2; have mg2_3 : w1.cell? ⟨g2, 3, none⟩ = some (.slice none 0 0) := (kC BK2.out 3).trans rfl; have fg2_3 := kF BK2.out 3) | (go_at_call 46; refine (read_calls A c xs _ (HR.out.below HB.out) HCC.out HL.out HI.out).mono ?_; rintro e wr ⟨v, n, A2, c2, R, A3, c3, E, b, rfl, l2, C2, l3, C3, hf, hv, hn, hb⟩; have n1 := As.mk (bT HB.out hb); have n2 := As.mk (kB BK2.out hb); clear HB BK2; clear mg2_0 fg2_0 mg2_1 fg2_1 mg2_2 fg2_2 mg2_3 fg2_3; have HB := n1; have BK2 := n2; clear n1 n2; have mg2_0 : wr.cell? ⟨g2, 0, none⟩ = some (.int .i64 0) := (kC BK2.out 0).trans rfl; have fg2_0 := kF BK2.out 0; have mg2_1 : wr.cell? ⟨g2, 1, none⟩ = some (.string (⟨#[]⟩ : ByteArray)) := (kC BK2.out 1).trans rfl; have fg2_1 := kF BK2.out 1; have mg2_2 : wr.cell? ⟨g2, 2, none⟩ = some (.slice none 0 0) := (kC BK2.out 2).trans rfl; have fg2_2 := kF BK2.out 2; have mg2_3 : wr.cell? ⟨g2, 3, none⟩ = some (.slice none 0 0) := (kC BK2.out 3).trans rfl; have fg2_3 := kF BK2.out 3; have BR := As.mk (show ∀ W, Below wr.heap.size wr W → Kd.C k24 W A2 R.length R ∧ Kd.C k50 W A3 E.length E from fun W hW => ⟨Kd.C_below C2 hW, Kd.C_below C3 hW⟩); have L2 := As.mk l2; have L3 := As.mk l3; have HF := As.mk (And.intro hf (And.intro hv hn)); have HW1 := As.mk (Below.refl wr.heap.size wr); clear l2 C2 l3 C3 hf hv hn hb) | ((with_reducible refine gate_dst (N := 4) rfl ?_); refine box_event ?hg (N := 4) ?hd (cs := #[.int .i64 0, .string (⟨#[]⟩ : ByteArray), .slice none 0 0, .slice none 0 0]) (t := 37) ?hr ?_; (case hd => rfl); (case hg => rfl); (case hr => first | (go_simp; done) | (go_simp; rfl)); intro g4 hg w1 hbox hb; have GE4 := As.mk ((by rw [hg]; exact HB.out.size) : w.heap.size ≤ g4); have n1 := As.mk (bT HB.out hb); have n22 := As.mk (kB BK2.out hb); have NE24 := As.mk ((by rw [hg]; exact Nat.ne_of_lt (blk_lt (w := _) BK2.out)) : g2 ≠ g4); clear HB BK2; clear mg2_0 fg2_0 mg2_1 fg2_1 mg2_2 fg2_2 mg2_3 fg2_3; have HB := n1; clear n1; have BK2 := n22; clear n22; have BK4 := As.mk hbox; have nw := As.mk (HW1.out.trans (hb.mono HW1.out.size)); have GW := As.mk ((by rw [hg]; exact HW1.out.size) : wr.heap.size ≤ g4); clear HW1; have HW1 := nw; clear nw hb hbox hg; have mg2_0 : w1.cell? ⟨g2, 0, none⟩ = some (.int .i64 0) := (kC BK2.out 0).trans rfl; have fg2_0 := kF BK2.out 0; have mg2_1 : w1.cell? ⟨g2, 1, none⟩ = some (.string (⟨#[]⟩ : ByteArray)) := (kC BK2.out 1).trans rfl; have fg2_1 := kF BK2.out 1; have mg2_2 : w1.cell? ⟨g2, 2, none⟩ = some (.slice none 0 0) := (kC BK2.out 2).trans rfl; have fg2_2 := kF BK2.out 2; have mg2_3 : w1.cell? ⟨g2, 3, none⟩ = some (.slice none 0 0) := (kC BK2.out 3).trans rfl; have fg2_3 := kF BK2.out 3; have mg4_0 : w1.cell? ⟨g4, 0, none⟩ = some (.int .i64 0) := (kC BK4.out 0).trans rfl; have fg4_0 := kF BK4.out 0; have mg4_1 : w1.cell? ⟨g4, 1, none⟩ = some (.string (⟨#[]⟩ : ByteArray)) := (kC BK4.out 1).trans rfl; have fg4_1 := kF BK4.out 1; have mg4_2 : w1.cell? ⟨g4, 2, none⟩ = some (.slice none 0 0) := (kC BK4.out 2).trans rfl; have fg4_2 := kF BK4.out 2; have mg4_3 : w1.cell? ⟨g4, 3, none⟩ = some (.slice none 0 0) := (kC BK4.out 3).trans rfl; have fg4_3 := kF BK4.out 3) | ((with_reducible refine gate_store (t := 37) (p := 4) rfl ?_); refine store_event (t := 37) (p := 4) (v := ?vo4) (w1 := ?wo4) ?hg ?ho ?hn ?hr ?_; (case ho => rfl); (case hg => rfl); (case hn => rfl); (case hr => first | (go_simp; done) | (go_simp; rfl)); intro w2 hw; have n0 := As.mk ((by rw [hw]; exact kP (cs := #[.int .i64 v, .string n, .slice A2 R.length c2, .slice none 0 0]) (kP (cs := #[.int .i64 v, .string n, .slice none 0 0, .slice none 0 0]) (kP (cs := #[.int .i64 v, .string (⟨#[]⟩ : ByteArray), .slice none 0 0, .slice none 0 0]) (kP (cs := #[.int .i64 0, .string (⟨#[]⟩ : ByteArray), .slice none 0 0, .slice none 0 0]) (BK4.out) 0 _ rfl) 1 _ rfl) 2 _ rfl) 3 _ rfl) : w2.heap[g4]? = some (.cells #[.int .i64 v, .string n, .slice A2 R.length c2, .slice A3 E.length c3] 37 (0, 0))); have n1 := As.mk ((by rw [hw]; exact bS (bS (bS (bS HB.out GE4.out) GE4.out) GE4.out) GE4.out) : Below w.heap.size w w2); have n32 := As.mk ((by rw [hw]; exact kR (p := ⟨g4, 3, none⟩) (kR (p := ⟨g4, 2, none⟩) (kR (p := ⟨g4, 1, none⟩) (kR (p := ⟨g4, 0, none⟩) (BK2.out) NE24.out _) NE24.out _) NE24.out _) NE24.out _) : w2.heap[g2]? = some (.cells #[.int .i64 0, .string (⟨#[]⟩ : ByteArray), .slice none 0 0, .slice none 0 0] 37 (0, 0))); clear HB BK4 BK2; clear mg4_0 fg4_0 mg4_1 fg4_1 mg4_2 fg4_2 mg4_3 fg4_3 mg2_0 fg2_0 mg2_1 fg2_1 mg2_2 fg2_2 mg2_3 fg2_3; have HB := n1; have BK4 := n0; have nw := As.mk ((by rw [hw]; exact bS (bS (bS (bS HW1.out GW.out) GW.out) GW.out) GW.out) : Below wr.heap.size wr w2); clear HW1; have HW1 := nw; clear nw n0 n1 hw; have BK2 := n32; clear n32; have mg2_0 : w2.cell? ⟨g2, 0, none⟩ = some (.int .i64 0) := (kC BK2.out 0).trans rfl; have fg2_0 := kF BK2.out 0; have mg2_1 : w2.cell? ⟨g2, 1, none⟩ = some (.string (⟨#[]⟩ : ByteArray)) := (kC BK2.out 1).trans rfl; have fg2_1 := kF BK2.out 1; have mg2_2 : w2.cell? ⟨g2, 2, none⟩ = some (.slice none 0 0) := (kC BK2.out 2).trans rfl; have fg2_2 := kF BK2.out 2; have mg2_3 : w2.cell? ⟨g2, 3, none⟩ = some (.slice none 0 0) := (kC BK2.out 3).trans rfl; have fg2_3 := kF BK2.out 3; have mg4_0 : w2.cell? ⟨g4, 0, none⟩ = some (.int .i64 v) := (kC BK4.out 0).trans rfl; have fg4_0 := kF BK4.out 0; have mg4_1 : w2.cell? ⟨g4, 1, none⟩ = some (.string n) := (kC BK4.out 1).trans rfl; have fg4_1 := kF BK4.out 1; have mg4_2 : w2.cell? ⟨g4, 2, none⟩ = some (.slice A2 R.length c2) := (kC BK4.out 2).trans rfl; have fg4_2 := kF BK4.out 2; have mg4_3 : w2.cell? ⟨g4, 3, none⟩ = some (.slice A3 E.length c3) := (kC BK4.out 3).trans rfl; have fg4_3 := kF BK4.out 3) | (go_at_call 18; obtain ⟨k, hk⟩ := (enc_ev (fit_of_Q HF.out.1 HF.out.2.1 HF.out.2.2)).rounds; refine (catalog_Encode.calls k v n A2 c2 R A3 c3 E (encC v n R E).1 (encC v n R E).2 _ (BR.out _ HW1.out).1 L2.out (BR.out _ HW1.out).2 L3.out hk (UtfOk.of_below HU.out HB.out)).mono ?_; rintro e w3 ⟨v1, rfl, hr1, hb⟩; clear hk; have HQ := As.mk hr1; have n1 := As.mk (bT HB.out hb); have n2 := As.mk (kB BK2.out hb); have n4 := As.mk (kB BK4.out hb); clear HB BK2 BK4 hr1 hb; clear mg2_0 fg2_0 mg2_1 fg2_1 mg2_2 fg2_2 mg2_3 fg2_3 mg4_0 fg4_0 mg4_1 fg4_1 mg4_2 fg4_2 mg4_3 fg4_3; have HB := n1; have BK2 := n2; have BK4 := n4; clear n1 n2 n4; have mg2_0 : w3.cell? ⟨g2, 0, none⟩ = some (.int .i64 0) := (kC BK2.out 0).trans rfl; have fg2_0 := kF BK2.out 0; have mg2_1 : w3.cell? ⟨g2, 1, none⟩ = some (.string (⟨#[]⟩ : ByteArray)) := (kC BK2.out 1).trans rfl; have fg2_1 := kF BK2.out 1; have mg2_2 : w3.cell? ⟨g2, 2, none⟩ = some (.slice none 0 0) := (kC BK2.out 2).trans rfl; have fg2_2 := kF BK2.out 2; have mg2_3 : w3.cell? ⟨g2, 3, none⟩ = some (.slice none 0 0) := (kC BK2.out 3).trans rfl; have fg2_3 := kF BK2.out 3; have mg4_0 : w3.cell? ⟨g4, 0, none⟩ = some (.int .i64 v) := (kC BK4.out 0).trans rfl; have fg4_0 := kF BK4.out 0; have mg4_1 : w3.cell? ⟨g4, 1, none⟩ = some (.string n) := (kC BK4.out 1).trans rfl; have fg4_1 := kF BK4.out 1; have mg4_2 : w3.cell? ⟨g4, 2, none⟩ = some (.slice A2 R.length c2) := (kC BK4.out 2).trans rfl; have fg4_2 := kF BK4.out 2; have mg4_3 : w3.cell? ⟨g4, 3, none⟩ = some (.slice A3 E.length c3) := (kC BK4.out 3).trans rfl; have fg4_3 := kF BK4.out 3))
  have hcs := own_string (P := Tryz.prog) Tryz.underlying39 Tryz.underlying5 Tryz.underlying9 (Kd.own_of_R HQ.out)
  have hcx := string_of_reads (c := c) (P := Tryz.prog) Tryz.underlying39 Tryz.underlying5 Tryz.underlying9 (HR.out.below HB.out)
  obtain ⟨r2, hr2⟩ : ∃ q, (encC v n R E).2 = q := ⟨_, rfl⟩
  obtain ⟨bs, hbs⟩ : ∃ q, (encC v n R E).1 = q := ⟨_, rfl⟩
  rw [hbs] at hcs
  rw [hr2]
  have HR2 := As.mk hr2
  have HBS := As.mk hbs
  clear hr2 hbs
  cases b
  · clear hcs hcx
    go_wp2_with ((with_reducible refine gate_store (t := 37) (p := 2) rfl ?_); refine store_event (t := 37) (p := 2) (v := ?vo2) (w1 := ?wo2) ?hg ?ho ?hn ?hr ?_; (case ho => rfl); (case hg => rfl); (case hn => rfl); (case hr => first | (go_simp; done) | (go_simp; rfl)); intro w2 hw; have n0 := As.mk ((by rw [hw]; exact kP (cs := #[.int .i64 0, .string (⟨#[]⟩ : ByteArray), .slice none 0 0, .slice none 0 0]) (kP (cs := #[.int .i64 0, .string (⟨#[]⟩ : ByteArray), .slice none 0 0, .slice none 0 0]) (kP (cs := #[.int .i64 0, .string (⟨#[]⟩ : ByteArray), .slice none 0 0, .slice none 0 0]) (kP (cs := #[.int .i64 0, .string (⟨#[]⟩ : ByteArray), .slice none 0 0, .slice none 0 0]) (BK2.out) 0 _ rfl) 1 _ rfl) 2 _ rfl) 3 _ rfl) : w2.heap[g2]? = some (.cells #[.int .i64 0, .string (⟨#[]⟩ : ByteArray), .slice none 0 0, .slice none 0 0] 37 (0, 0))); have n1 := As.mk ((by rw [hw]; exact bS (bS (bS (bS HB.out GE2.out) GE2.out) GE2.out) GE2.out) : Below w.heap.size w w2); have n34 := As.mk ((by rw [hw]; exact kR (p := ⟨g2, 3, none⟩) (kR (p := ⟨g2, 2, none⟩) (kR (p := ⟨g2, 1, none⟩) (kR (p := ⟨g2, 0, none⟩) (BK4.out) (Ne.symm NE24.out) _) (Ne.symm NE24.out) _) (Ne.symm NE24.out) _) (Ne.symm NE24.out) _) : w2.heap[g4]? = some (.cells #[.int .i64 v, .string n, .slice A2 R.length c2, .slice A3 E.length c3] 37 (0, 0))); clear HB BK2 BK4; clear mg2_0 fg2_0 mg2_1 fg2_1 mg2_2 fg2_2 mg2_3 fg2_3 mg4_0 fg4_0 mg4_1 fg4_1 mg4_2 fg4_2 mg4_3 fg4_3; have HB := n1; have BK2 := n0; clear n0 n1 hw; have BK4 := n34; clear n34; have mg4_0 : w2.cell? ⟨g4, 0, none⟩ = some (.int .i64 v) := (kC BK4.out 0).trans rfl; have fg4_0 := kF BK4.out 0; have mg4_1 : w2.cell? ⟨g4, 1, none⟩ = some (.string n) := (kC BK4.out 1).trans rfl; have fg4_1 := kF BK4.out 1; have mg4_2 : w2.cell? ⟨g4, 2, none⟩ = some (.slice A2 R.length c2) := (kC BK4.out 2).trans rfl; have fg4_2 := kF BK4.out 2; have mg4_3 : w2.cell? ⟨g4, 3, none⟩ = some (.slice A3 E.length c3) := (kC BK4.out 3).trans rfl; have fg4_3 := kF BK4.out 3; have mg2_0 : w2.cell? ⟨g2, 0, none⟩ = some (.int .i64 0) := (kC BK2.out 0).trans rfl; have fg2_0 := kF BK2.out 0; have mg2_1 : w2.cell? ⟨g2, 1, none⟩ = some (.string (⟨#[]⟩ : ByteArray)) := (kC BK2.out 1).trans rfl; have fg2_1 := kF BK2.out 1; have mg2_2 : w2.cell? ⟨g2, 2, none⟩ = some (.slice none 0 0) := (kC BK2.out 2).trans rfl; have fg2_2 := kF BK2.out 2; have mg2_3 : w2.cell? ⟨g2, 3, none⟩ = some (.slice none 0 0) := (kC BK2.out 3).trans rfl; have fg2_3 := kF BK2.out 3)
    refine bodyPost_ret (results_ct rfl _ _ g2 37 #[.int .i64 0, .string (⟨#[]⟩ : ByteArray), .slice none 0 0, .slice none 0 0] (0, 0) _ rfl BK2.out Tryz.underlying37 rfl (by kernel_rfl)) rfl ?_
    exact ⟨_, _, _, _, _, _, _, _, 70, rfl, .inl rfl, HB.out⟩
  by_cases hz : r2 = 0
  rotate_left
  · clear hcs hcx
    have d1 : (r2 == 0) = false := by simpa using hz
    have d2 : (r2 != 0) = true := by simpa using hz
    clear hz
    go_wp2_with ((with_reducible refine gate_store (t := 37) (p := 2) rfl ?_); refine store_event (t := 37) (p := 2) (v := ?vo2) (w1 := ?wo2) ?hg ?ho ?hn ?hr ?_; (case ho => rfl); (case hg => rfl); (case hn => rfl); (case hr => first | (go_simp; done) | (go_simp; rfl)); intro w2 hw; have n0 := As.mk ((by rw [hw]; exact kP (cs := #[.int .i64 0, .string (⟨#[]⟩ : ByteArray), .slice none 0 0, .slice none 0 0]) (kP (cs := #[.int .i64 0, .string (⟨#[]⟩ : ByteArray), .slice none 0 0, .slice none 0 0]) (kP (cs := #[.int .i64 0, .string (⟨#[]⟩ : ByteArray), .slice none 0 0, .slice none 0 0]) (kP (cs := #[.int .i64 0, .string (⟨#[]⟩ : ByteArray), .slice none 0 0, .slice none 0 0]) (BK2.out) 0 _ rfl) 1 _ rfl) 2 _ rfl) 3 _ rfl) : w2.heap[g2]? = some (.cells #[.int .i64 0, .string (⟨#[]⟩ : ByteArray), .slice none 0 0, .slice none 0 0] 37 (0, 0))); have n1 := As.mk ((by rw [hw]; exact bS (bS (bS (bS HB.out GE2.out) GE2.out) GE2.out) GE2.out) : Below w.heap.size w w2); have n34 := As.mk ((by rw [hw]; exact kR (p := ⟨g2, 3, none⟩) (kR (p := ⟨g2, 2, none⟩) (kR (p := ⟨g2, 1, none⟩) (kR (p := ⟨g2, 0, none⟩) (BK4.out) (Ne.symm NE24.out) _) (Ne.symm NE24.out) _) (Ne.symm NE24.out) _) (Ne.symm NE24.out) _) : w2.heap[g4]? = some (.cells #[.int .i64 v, .string n, .slice A2 R.length c2, .slice A3 E.length c3] 37 (0, 0))); clear HB BK2 BK4; clear mg2_0 fg2_0 mg2_1 fg2_1 mg2_2 fg2_2 mg2_3 fg2_3 mg4_0 fg4_0 mg4_1 fg4_1 mg4_2 fg4_2 mg4_3 fg4_3; have HB := n1; have BK2 := n0; clear n0 n1 hw; have BK4 := n34; clear n34; have mg4_0 : w2.cell? ⟨g4, 0, none⟩ = some (.int .i64 v) := (kC BK4.out 0).trans rfl; have fg4_0 := kF BK4.out 0; have mg4_1 : w2.cell? ⟨g4, 1, none⟩ = some (.string n) := (kC BK4.out 1).trans rfl; have fg4_1 := kF BK4.out 1; have mg4_2 : w2.cell? ⟨g4, 2, none⟩ = some (.slice A2 R.length c2) := (kC BK4.out 2).trans rfl; have fg4_2 := kF BK4.out 2; have mg4_3 : w2.cell? ⟨g4, 3, none⟩ = some (.slice A3 E.length c3) := (kC BK4.out 3).trans rfl; have fg4_3 := kF BK4.out 3; have mg2_0 : w2.cell? ⟨g2, 0, none⟩ = some (.int .i64 0) := (kC BK2.out 0).trans rfl; have fg2_0 := kF BK2.out 0; have mg2_1 : w2.cell? ⟨g2, 1, none⟩ = some (.string (⟨#[]⟩ : ByteArray)) := (kC BK2.out 1).trans rfl; have fg2_1 := kF BK2.out 1; have mg2_2 : w2.cell? ⟨g2, 2, none⟩ = some (.slice none 0 0) := (kC BK2.out 2).trans rfl; have fg2_2 := kF BK2.out 2; have mg2_3 : w2.cell? ⟨g2, 3, none⟩ = some (.slice none 0 0) := (kC BK2.out 3).trans rfl; have fg2_3 := kF BK2.out 3)
    refine bodyPost_ret (results_ct rfl _ _ g2 37 #[.int .i64 0, .string (⟨#[]⟩ : ByteArray), .slice none 0 0, .slice none 0 0] (0, 0) _ rfl BK2.out Tryz.underlying37 rfl (by kernel_rfl)) rfl ?_
    exact ⟨_, _, _, _, _, _, _, _, 70, rfl, .inl rfl, HB.out⟩
  subst hz
  by_cases hq : bs = xs
  rotate_left
  · have hI : inB bs := by rw [← HBS.out]; exact encC_inB _ _ _ _
    have d1 : ((strOfNums bs).toList == (strOfNums xs).toList) = false := by rw [beq_eq_false_iff_ne]; exact fun e => hq ((str_iff hI HI.out).1 e)
    have d2 : ((strOfNums bs).toList != (strOfNums xs).toList) = true := by rw [bne, d1]; rfl
    clear hq hI
    go_wp2_with ((with_reducible refine gate_store (t := 37) (p := 2) rfl ?_); refine store_event (t := 37) (p := 2) (v := ?vo2) (w1 := ?wo2) ?hg ?ho ?hn ?hr ?_; (case ho => rfl); (case hg => rfl); (case hn => rfl); (case hr => first | (go_simp; done) | (go_simp; rfl)); intro w2 hw; have n0 := As.mk ((by rw [hw]; exact kP (cs := #[.int .i64 0, .string (⟨#[]⟩ : ByteArray), .slice none 0 0, .slice none 0 0]) (kP (cs := #[.int .i64 0, .string (⟨#[]⟩ : ByteArray), .slice none 0 0, .slice none 0 0]) (kP (cs := #[.int .i64 0, .string (⟨#[]⟩ : ByteArray), .slice none 0 0, .slice none 0 0]) (kP (cs := #[.int .i64 0, .string (⟨#[]⟩ : ByteArray), .slice none 0 0, .slice none 0 0]) (BK2.out) 0 _ rfl) 1 _ rfl) 2 _ rfl) 3 _ rfl) : w2.heap[g2]? = some (.cells #[.int .i64 0, .string (⟨#[]⟩ : ByteArray), .slice none 0 0, .slice none 0 0] 37 (0, 0))); have n1 := As.mk ((by rw [hw]; exact bS (bS (bS (bS HB.out GE2.out) GE2.out) GE2.out) GE2.out) : Below w.heap.size w w2); have n34 := As.mk ((by rw [hw]; exact kR (p := ⟨g2, 3, none⟩) (kR (p := ⟨g2, 2, none⟩) (kR (p := ⟨g2, 1, none⟩) (kR (p := ⟨g2, 0, none⟩) (BK4.out) (Ne.symm NE24.out) _) (Ne.symm NE24.out) _) (Ne.symm NE24.out) _) (Ne.symm NE24.out) _) : w2.heap[g4]? = some (.cells #[.int .i64 v, .string n, .slice A2 R.length c2, .slice A3 E.length c3] 37 (0, 0))); clear HB BK2 BK4; clear mg2_0 fg2_0 mg2_1 fg2_1 mg2_2 fg2_2 mg2_3 fg2_3 mg4_0 fg4_0 mg4_1 fg4_1 mg4_2 fg4_2 mg4_3 fg4_3; have HB := n1; have BK2 := n0; clear n0 n1 hw; have BK4 := n34; clear n34; have mg4_0 : w2.cell? ⟨g4, 0, none⟩ = some (.int .i64 v) := (kC BK4.out 0).trans rfl; have fg4_0 := kF BK4.out 0; have mg4_1 : w2.cell? ⟨g4, 1, none⟩ = some (.string n) := (kC BK4.out 1).trans rfl; have fg4_1 := kF BK4.out 1; have mg4_2 : w2.cell? ⟨g4, 2, none⟩ = some (.slice A2 R.length c2) := (kC BK4.out 2).trans rfl; have fg4_2 := kF BK4.out 2; have mg4_3 : w2.cell? ⟨g4, 3, none⟩ = some (.slice A3 E.length c3) := (kC BK4.out 3).trans rfl; have fg4_3 := kF BK4.out 3; have mg2_0 : w2.cell? ⟨g2, 0, none⟩ = some (.int .i64 0) := (kC BK2.out 0).trans rfl; have fg2_0 := kF BK2.out 0; have mg2_1 : w2.cell? ⟨g2, 1, none⟩ = some (.string (⟨#[]⟩ : ByteArray)) := (kC BK2.out 1).trans rfl; have fg2_1 := kF BK2.out 1; have mg2_2 : w2.cell? ⟨g2, 2, none⟩ = some (.slice none 0 0) := (kC BK2.out 2).trans rfl; have fg2_2 := kF BK2.out 2; have mg2_3 : w2.cell? ⟨g2, 3, none⟩ = some (.slice none 0 0) := (kC BK2.out 3).trans rfl; have fg2_3 := kF BK2.out 3)
    refine bodyPost_ret (results_ct rfl _ _ g2 37 #[.int .i64 0, .string (⟨#[]⟩ : ByteArray), .slice none 0 0, .slice none 0 0] (0, 0) _ rfl BK2.out Tryz.underlying37 rfl (by kernel_rfl)) rfl ?_
    exact ⟨_, _, _, _, _, _, _, _, 70, rfl, .inl rfl, HB.out⟩
  · have d1 : ((strOfNums bs).toList == (strOfNums xs).toList) = true := by rw [hq]; exact beq_self_eq_true _
    have d2 : ((strOfNums bs).toList != (strOfNums xs).toList) = false := by rw [bne, d1]; rfl
    have HZ := As.mk (encC_is (HR2.out) (HBS.out.trans hq))
    clear hq
    go_wp2
    refine bodyPost_ret (results_ct rfl _ _ g2 37 #[.int .i64 v, .string n, .slice A2 R.length c2, .slice A3 E.length c3] (0, 0) _ rfl (kP (cs := #[.int .i64 v, .string n, .slice A2 R.length c2, .slice none 0 0]) (kP (cs := #[.int .i64 v, .string n, .slice none 0 0, .slice none 0 0]) (kP (cs := #[.int .i64 v, .string (⟨#[]⟩ : ByteArray), .slice none 0 0, .slice none 0 0]) (kP (cs := #[.int .i64 0, .string (⟨#[]⟩ : ByteArray), .slice none 0 0, .slice none 0 0]) (BK2.out) 0 _ rfl) 1 _ rfl) 2 _ rfl) 3 _ rfl) Tryz.underlying37 rfl (by kernel_rfl)) rfl ?_
    exact ⟨_, _, _, _, _, _, _, _, 0, rfl, .inr ⟨rfl, HZ.out⟩, bS (bS (bS (bS HB.out GE2.out) GE2.out) GE2.out) GE2.out⟩
end Go.Proofs.YtkgafkoopefghaaGreatDoor.PA
end
