/- A part of this law; its conditions stand in the last text. -/
import Derived.Test.YtkgafkoopefghaaGreatDoorCc27
section
set_option linter.unusedVariables false
set_option linter.unusedSimpArgs false
namespace Go.Proofs.YtkgafkoopefghaaGreatDoor.PA
open Go.RowKit Go.Maps Go.WideMaps Go.Proofs.YtkgafkoopefghaaGreatDoor.Hk Go.Proofs.YtkgafkoopefghaaGreatDoorW.PrintWords Go.Proofs.YtkgafkoopefghaaGreatDoorW.PrintLast
set_option maxRecDepth 100000 in
set_option maxHeartbeats 4000000 in
theorem r17_C {Q : Exit → Act → World → Prop} {id : Nat} {a0 : Act} {w : World} (S : World → Prop) (gp gx g1 : Nat) (i : Nat) (nm vl : ByteArray) (h11 : a0.tmps[11]? = some (.int .i64 (i : Int))) (h12 : a0.tmps[12]? = some (.pointer (some ⟨gp, 0, none⟩))) (h13 : a0.tmps[13]? = some (.pointer (some ⟨gx, 0, none⟩))) (h14 : a0.tmps[14]? = some (.bool true)) (h1 : a0.tmps[1]? = some (.pointer (some ⟨g1, 0, none⟩))) (hsz : a0.tmps.size = 162) (hS : S w.drew) (k1 : ∀ W, S W → W.cell? ⟨gp, 0, none⟩ = some (.string nm)) (be2 : (nm.toList != ([101, 110, 115, 117, 114, 101] : List UInt8)) = true) (g : Nat) (lb : Array Value) (eg : ∀ args w, (callFunc g args).run Tryz.prog w = .ok (.enter g args) w) (k2 : ∀ W, S W → W.cell? ⟨gp, 1, none⟩ = some (.string vl)) (k3 : ∀ W, S W → W.cell? ⟨gx, 2, none⟩ = some (.func (.func g) #[] lb)) (hcall : ∀ W, S W → Calls Tryz.prog g (#[.string vl] ++ lb) W fun e w' => e = .returned (.bool false) ∧ S w')
    (hdone : ∀ W, S W → Q .normal (actE a0 (List.replicate 31 true) d17 ([(.pointer (some ⟨gp, 0, none⟩)), (.string nm), (.bool true), (.bool true), (.bool true), (.bool false), (.bool false), (.pointer (some ⟨gx, 2, none⟩)), (.func (.func g) #[] lb), (.pointer (some ⟨gp, 1, none⟩)), (.string vl), (.bool false), (.bool true), (.bool true), (.bool true), (.bool true), undef, undef, undef, undef, undef, undef, undef, undef, undef, undef, undef, undef, undef, undef, (.bool true)] : List Value)) W) : (Code.region id (opsOf Tryz.f11 17) true).wp Tryz.prog Q a0 w := by
  have hu24 := Tryz.underlying24
  have hu31 := Tryz.underlying31
  have hu68 := Tryz.underlying68
  have hu22 := Tryz.underlying22
  refine region_exp (N := n17) (D := d17) (E := ([(.pointer (some ⟨gp, 0, none⟩)), (.string nm), (.bool true), (.bool true), (.bool true), (.bool false), (.bool false), (.pointer (some ⟨gx, 2, none⟩)), (.func (.func g) #[] lb), (.pointer (some ⟨gp, 1, none⟩)), (.string vl), (.bool false), (.bool true), (.bool true), (.bool true), (.bool true), undef, undef, undef, undef, undef, undef, undef, undef, undef, undef, undef, undef, undef, undef, (.bool true)] : List Value)) S t17 (by kernel_rfl) (by decide) rfl rfl (by decide) (by intro d hd; rw [hsz]; revert d; decide) hS ?_ hdone
  intro k hk a W hs hsa hj ho
  have hcase : k = 0 ∨ k = 1 ∨ k = 2 ∨ k = 3 ∨ k = 4 ∨ k = 5 ∨ k = 6 ∨ k = 7 ∨ k = 8 ∨ k = 9 ∨ k = 10 ∨ k = 11 ∨ k = 12 ∨ k = 13 ∨ k = 14 ∨ k = 15 ∨ k = 16 ∨ k = 17 ∨ k = 18 ∨ k = 19 ∨ k = 20 ∨ k = 21 ∨ k = 22 ∨ k = 23 ∨ k = 24 ∨ k = 25 ∨ k = 26 ∨ k = 27 ∨ k = 28 ∨ k = 29 ∨ k = 30 := by have : n17.length = 31 := rfl; omega
  rcases hcase with rfl | rfl | rfl | rfl | rfl | rfl | rfl | rfl | rfl | rfl | rfl | rfl | rfl | rfl | rfl | rfl | rfl | rfl | rfl | rfl | rfl | rfl | rfl | rfl | rfl | rfl | rfl | rfl | rfl | rfl | rfl
  · obtain ⟨pos, after, hop⟩ := op17_0
    have e12 : a.eval (.tmp 12) = (.pointer (some ⟨gp, 0, none⟩)) := eval_tmp ((ho 12 (by decide)).trans h12)
    refine op_yields hop (wanted_none rfl _) ?_ hs rfl
    clear hj ho hop hdone hS hcall
    have ec : ∀ v, a.eval (.const v) = v := fun _ => rfl
    clear hsa hk
    generalize a.eval = ev at *
    first | (go_simp; done) | (go_simp; rfl)
  · obtain ⟨pos, after, hop⟩ := op17_1
    have e75 : a.eval (.tmp 75) = (.pointer (some ⟨gp, 0, none⟩)) := eval_tmp (hj 0 (by decide))
    have c_k1 := k1 W hs
    refine op_yields hop (wanted_none rfl _) ?_ hs rfl
    clear hj ho hop hdone hS hcall
    have ec : ∀ v, a.eval (.const v) = v := fun _ => rfl
    clear hsa hk
    generalize a.eval = ev at *
    first | (go_simp; done) | (go_simp; rfl)
  · obtain ⟨pos, after, hop⟩ := op17_2
    have e76 : a.eval (.tmp 76) = (.string nm) := eval_tmp (hj 1 (by decide))
    have be3 : ¬ nm.toList = ([101, 110, 115, 117, 114, 101] : List UInt8) := by simpa using be2
    refine op_yields hop (wanted_none rfl _) ?_ hs rfl
    clear hj ho hop hdone hS hcall
    have ec : ∀ v, a.eval (.const v) = v := fun _ => rfl
    clear hsa hk
    generalize a.eval = ev at *
    first | (go_simp; done) | (go_simp; rfl) | (go_simp; exact be3)
  · obtain ⟨pos, after, hop⟩ := op17_3
    have e77 : a.eval (.tmp 77) = (.bool true) := eval_tmp (hj 2 (by decide))
    refine op_yields hop (wanted_none rfl _) ?_ hs rfl
    clear hj ho hop hdone hS hcall
    have ec : ∀ v, a.eval (.const v) = v := fun _ => rfl
    clear hsa hk
    generalize a.eval = ev at *
    first | (go_simp; done) | (go_simp; rfl)
  · obtain ⟨pos, after, hop⟩ := op17_4
    have e14 : a.eval (.tmp 14) = (.bool true) := eval_tmp ((ho 14 (by decide)).trans h14)
    refine op_yields hop ((wanted_some rfl dst17_3 (hj 3 (by decide))).trans rfl) ?_ hs rfl
    clear hj ho hop hdone hS hcall
    have ec : ∀ v, a.eval (.const v) = v := fun _ => rfl
    clear hsa hk
    generalize a.eval = ev at *
    first | (go_simp; done) | (go_simp; rfl)
  · obtain ⟨pos, after, hop⟩ := op17_5
    have e79 : a.eval (.tmp 79) = (.bool true) := eval_tmp (hj 4 (by decide))
    refine op_yields hop ((wanted_some rfl dst17_3 (hj 3 (by decide))).trans rfl) ?_ hs rfl
    clear hj ho hop hdone hS hcall
    have ec : ∀ v, a.eval (.const v) = v := fun _ => rfl
    clear hsa hk
    generalize a.eval = ev at *
    first | (go_simp; done) | (go_simp; rfl)
  · obtain ⟨pos, after, hop⟩ := op17_6
    have e80 : a.eval (.tmp 80) = (.bool false) := eval_tmp (hj 5 (by decide))
    refine op_yields hop ((wanted_some rfl dst17_3 (hj 3 (by decide))).trans rfl) ?_ hs rfl
    clear hj ho hop hdone hS hcall
    have ec : ∀ v, a.eval (.const v) = v := fun _ => rfl
    clear hsa hk
    generalize a.eval = ev at *
    first | (go_simp; done) | (go_simp; rfl)
  · obtain ⟨pos, after, hop⟩ := op17_7
    have e13 : a.eval (.tmp 13) = (.pointer (some ⟨gx, 0, none⟩)) := eval_tmp ((ho 13 (by decide)).trans h13)
    refine op_yields hop ((wanted_some rfl dst17_6 (hj 6 (by decide))).trans rfl) ?_ hs rfl
    clear hj ho hop hdone hS hcall
    have ec : ∀ v, a.eval (.const v) = v := fun _ => rfl
    clear hsa hk
    generalize a.eval = ev at *
    first | (go_simp; done) | (go_simp; rfl)
  · obtain ⟨pos, after, hop⟩ := op17_8
    have e82 : a.eval (.tmp 82) = (.pointer (some ⟨gx, 2, none⟩)) := eval_tmp (hj 7 (by decide))
    have c_k3 := k3 W hs
    refine op_yields hop ((wanted_some rfl dst17_6 (hj 6 (by decide))).trans rfl) ?_ hs rfl
    clear hj ho hop hdone hS hcall
    have ec : ∀ v, a.eval (.const v) = v := fun _ => rfl
    clear hsa hk
    generalize a.eval = ev at *
    first | (go_simp; done) | (go_simp; rfl)
  · obtain ⟨pos, after, hop⟩ := op17_9
    have e12 : a.eval (.tmp 12) = (.pointer (some ⟨gp, 0, none⟩)) := eval_tmp ((ho 12 (by decide)).trans h12)
    refine op_yields hop ((wanted_some rfl dst17_6 (hj 6 (by decide))).trans rfl) ?_ hs rfl
    clear hj ho hop hdone hS hcall
    have ec : ∀ v, a.eval (.const v) = v := fun _ => rfl
    clear hsa hk
    generalize a.eval = ev at *
    first | (go_simp; done) | (go_simp; rfl)
  · obtain ⟨pos, after, hop⟩ := op17_10
    have e84 : a.eval (.tmp 84) = (.pointer (some ⟨gp, 1, none⟩)) := eval_tmp (hj 9 (by decide))
    have c_k2 := k2 W hs
    refine op_yields hop ((wanted_some rfl dst17_6 (hj 6 (by decide))).trans rfl) ?_ hs rfl
    clear hj ho hop hdone hS hcall
    have ec : ∀ v, a.eval (.const v) = v := fun _ => rfl
    clear hsa hk
    generalize a.eval = ev at *
    first | (go_simp; done) | (go_simp; rfl)
  · obtain ⟨pos, after, hop⟩ := op17_11
    have e83 : a.eval (.tmp 83) = (.func (.func g) #[] lb) := eval_tmp (hj 8 (by decide))
    have e85 : a.eval (.tmp 85) = (.string vl) := eval_tmp (hj 10 (by decide))
    refine op_step hop ((wanted_some rfl dst17_6 (hj 6 (by decide))).trans rfl) (fun K hK => ?_)
    have hc := hcall W hs
    have ec : ∀ v, a.eval (.const v) = v := fun _ => rfl
    clear hj ho hop hdone hS hcall hsa hk
    unfold Oper.wp
    simp only [execOp]
    generalize a.eval = ev at *
    have HC0 := As.mk hc
    clear hc
    go_simp
    refine HC0.out.mono ?_
    rintro e w1 ⟨rfl, hs1⟩
    exact hK _ _ ⟨rfl, hs1⟩
  · obtain ⟨pos, after, hop⟩ := op17_12
    have e86 : a.eval (.tmp 86) = (.bool false) := eval_tmp (hj 11 (by decide))
    refine op_yields hop ((wanted_some rfl dst17_6 (hj 6 (by decide))).trans rfl) ?_ hs rfl
    clear hj ho hop hdone hS hcall
    have ec : ∀ v, a.eval (.const v) = v := fun _ => rfl
    clear hsa hk
    generalize a.eval = ev at *
    first | (go_simp; done) | (go_simp; rfl)
  · obtain ⟨pos, after, hop⟩ := op17_13
    have e81 : a.eval (.tmp 81) = (.bool false) := eval_tmp (hj 6 (by decide))
    have e87 : a.eval (.tmp 87) = (.bool true) := eval_tmp (hj 12 (by decide))
    refine op_yields hop ((wanted_some rfl dst17_3 (hj 3 (by decide))).trans rfl) ?_ hs rfl
    clear hj ho hop hdone hS hcall
    have ec : ∀ v, a.eval (.const v) = v := fun _ => rfl
    clear hsa hk
    generalize a.eval = ev at *
    first | (go_simp; done) | (go_simp; rfl)
  · obtain ⟨pos, after, hop⟩ := op17_14
    have e78 : a.eval (.tmp 78) = (.bool true) := eval_tmp (hj 3 (by decide))
    have e88 : a.eval (.tmp 88) = (.bool true) := eval_tmp (hj 13 (by decide))
    refine op_yields hop (wanted_none rfl _) ?_ hs rfl
    clear hj ho hop hdone hS hcall
    have ec : ∀ v, a.eval (.const v) = v := fun _ => rfl
    clear hsa hk
    generalize a.eval = ev at *
    first | (go_simp; done) | (go_simp; rfl)
  · obtain ⟨pos, after, hop⟩ := op17_15
    have e89 : a.eval (.tmp 89) = (.bool true) := eval_tmp (hj 14 (by decide))
    refine op_yields hop (wanted_none rfl _) ?_ hs rfl
    clear hj ho hop hdone hS hcall
    have ec : ∀ v, a.eval (.const v) = v := fun _ => rfl
    clear hsa hk
    generalize a.eval = ev at *
    first | (go_simp; done) | (go_simp; rfl)
  · obtain ⟨pos, after, hop⟩ := op17_16
    exact op_struck hop ((wanted_some rfl dst17_15 (hj 15 (by decide))).trans rfl) hs rfl
  · obtain ⟨pos, after, hop⟩ := op17_17
    exact op_struck hop ((wanted_some rfl dst17_15 (hj 15 (by decide))).trans rfl) hs rfl
  · obtain ⟨pos, after, hop⟩ := op17_18
    exact op_struck hop ((wanted_some rfl dst17_15 (hj 15 (by decide))).trans rfl) hs rfl
  · obtain ⟨pos, after, hop⟩ := op17_19
    exact op_struck hop (wanted_undef rfl dst17_18 (hj 18 (by decide))) hs rfl
  · obtain ⟨pos, after, hop⟩ := op17_20
    exact op_struck hop (wanted_undef rfl dst17_18 (hj 18 (by decide))) hs rfl
  · obtain ⟨pos, after, hop⟩ := op17_21
    exact op_struck hop (wanted_undef rfl dst17_18 (hj 18 (by decide))) hs rfl
  · obtain ⟨pos, after, hop⟩ := op17_22
    exact op_struck hop (wanted_undef rfl dst17_18 (hj 18 (by decide))) hs rfl
  · obtain ⟨pos, after, hop⟩ := op17_23
    exact op_struck hop (wanted_undef rfl dst17_18 (hj 18 (by decide))) hs rfl
  · obtain ⟨pos, after, hop⟩ := op17_24
    exact op_struck hop (wanted_undef rfl dst17_18 (hj 18 (by decide))) hs rfl
  · obtain ⟨pos, after, hop⟩ := op17_25
    exact op_struck hop (wanted_undef rfl dst17_18 (hj 18 (by decide))) hs rfl
  · obtain ⟨pos, after, hop⟩ := op17_26
    exact op_struck hop (wanted_undef rfl dst17_18 (hj 18 (by decide))) hs rfl
  · obtain ⟨pos, after, hop⟩ := op17_27
    exact op_struck hop (wanted_undef rfl dst17_18 (hj 18 (by decide))) hs rfl
  · obtain ⟨pos, after, hop⟩ := op17_28
    exact op_struck hop (wanted_undef rfl dst17_18 (hj 18 (by decide))) hs rfl
  · obtain ⟨pos, after, hop⟩ := op17_29
    exact op_struck hop ((wanted_some rfl dst17_15 (hj 15 (by decide))).trans rfl) hs rfl
  · obtain ⟨pos, after, hop⟩ := op17_30
    have e90 : a.eval (.tmp 90) = (.bool true) := eval_tmp (hj 15 (by decide))
    have e104 : a.eval (.tmp 104) = undef := eval_tmp (hj 29 (by decide))
    refine op_yields hop (wanted_none rfl _) ?_ hs rfl
    clear hj ho hop hdone hS hcall
    have ec : ∀ v, a.eval (.const v) = v := fun _ => rfl
    clear hsa hk
    generalize a.eval = ev at *
    first | (go_simp; done) | (go_simp; rfl)
set_option maxRecDepth 100000 in
set_option maxHeartbeats 4000000 in
theorem r17_D0 {Q : Exit → Act → World → Prop} {id : Nat} {a0 : Act} {w : World} (S : World → Prop) (gp gx g1 : Nat) (i : Nat) (nm vl : ByteArray) (h11 : a0.tmps[11]? = some (.int .i64 (i : Int))) (h12 : a0.tmps[12]? = some (.pointer (some ⟨gp, 0, none⟩))) (h13 : a0.tmps[13]? = some (.pointer (some ⟨gx, 0, none⟩))) (h14 : a0.tmps[14]? = some (.bool true)) (h1 : a0.tmps[1]? = some (.pointer (some ⟨g1, 0, none⟩))) (hsz : a0.tmps.size = 162) (hS : S w.drew) (k1 : ∀ W, S W → W.cell? ⟨gp, 0, none⟩ = some (.string nm)) (be2 : (nm.toList != ([101, 110, 115, 117, 114, 101] : List UInt8)) = true) (g : Nat) (lb : Array Value) (eg : ∀ args w, (callFunc g args).run Tryz.prog w = .ok (.enter g args) w) (k2 : ∀ W, S W → W.cell? ⟨gp, 1, none⟩ = some (.string vl)) (k3 : ∀ W, S W → W.cell? ⟨gx, 2, none⟩ = some (.func (.func g) #[] lb)) (hcall : ∀ W, S W → Calls Tryz.prog g (#[.string vl] ++ lb) W fun e w' => e = .returned (.bool true) ∧ S w') (hz : decide ((0 : Int) < (i : Int)) = false)
    (hdone : ∀ W, S W → Q .normal (actE a0 (List.replicate 31 true) d17 ([(.pointer (some ⟨gp, 0, none⟩)), (.string nm), (.bool true), (.bool true), (.bool true), (.bool false), (.bool false), (.pointer (some ⟨gx, 2, none⟩)), (.func (.func g) #[] lb), (.pointer (some ⟨gp, 1, none⟩)), (.string vl), (.bool true), (.bool false), (.bool false), (.bool false), (.bool false), (.int .i64 (i : Int)), (.bool false), (.bool false), undef, undef, undef, undef, undef, undef, undef, undef, undef, undef, (.bool false), (.bool false)] : List Value)) W) : (Code.region id (opsOf Tryz.f11 17) true).wp Tryz.prog Q a0 w := by
  have hu24 := Tryz.underlying24
  have hu31 := Tryz.underlying31
  have hu68 := Tryz.underlying68
  have hu22 := Tryz.underlying22
  refine region_exp (N := n17) (D := d17) (E := ([(.pointer (some ⟨gp, 0, none⟩)), (.string nm), (.bool true), (.bool true), (.bool true), (.bool false), (.bool false), (.pointer (some ⟨gx, 2, none⟩)), (.func (.func g) #[] lb), (.pointer (some ⟨gp, 1, none⟩)), (.string vl), (.bool true), (.bool false), (.bool false), (.bool false), (.bool false), (.int .i64 (i : Int)), (.bool false), (.bool false), undef, undef, undef, undef, undef, undef, undef, undef, undef, undef, (.bool false), (.bool false)] : List Value)) S t17 (by kernel_rfl) (by decide) rfl rfl (by decide) (by intro d hd; rw [hsz]; revert d; decide) hS ?_ hdone
  intro k hk a W hs hsa hj ho
  have hcase : k = 0 ∨ k = 1 ∨ k = 2 ∨ k = 3 ∨ k = 4 ∨ k = 5 ∨ k = 6 ∨ k = 7 ∨ k = 8 ∨ k = 9 ∨ k = 10 ∨ k = 11 ∨ k = 12 ∨ k = 13 ∨ k = 14 ∨ k = 15 ∨ k = 16 ∨ k = 17 ∨ k = 18 ∨ k = 19 ∨ k = 20 ∨ k = 21 ∨ k = 22 ∨ k = 23 ∨ k = 24 ∨ k = 25 ∨ k = 26 ∨ k = 27 ∨ k = 28 ∨ k = 29 ∨ k = 30 := by have : n17.length = 31 := rfl; omega
  rcases hcase with rfl | rfl | rfl | rfl | rfl | rfl | rfl | rfl | rfl | rfl | rfl | rfl | rfl | rfl | rfl | rfl | rfl | rfl | rfl | rfl | rfl | rfl | rfl | rfl | rfl | rfl | rfl | rfl | rfl | rfl | rfl
  · obtain ⟨pos, after, hop⟩ := op17_0
    have e12 : a.eval (.tmp 12) = (.pointer (some ⟨gp, 0, none⟩)) := eval_tmp ((ho 12 (by decide)).trans h12)
    refine op_yields hop (wanted_none rfl _) ?_ hs rfl
    clear hj ho hop hdone hS hcall
    have ec : ∀ v, a.eval (.const v) = v := fun _ => rfl
    clear hsa hk
    generalize a.eval = ev at *
    first | (go_simp; done) | (go_simp; rfl)
  · obtain ⟨pos, after, hop⟩ := op17_1
    have e75 : a.eval (.tmp 75) = (.pointer (some ⟨gp, 0, none⟩)) := eval_tmp (hj 0 (by decide))
    have c_k1 := k1 W hs
    refine op_yields hop (wanted_none rfl _) ?_ hs rfl
    clear hj ho hop hdone hS hcall
    have ec : ∀ v, a.eval (.const v) = v := fun _ => rfl
    clear hsa hk
    generalize a.eval = ev at *
    first | (go_simp; done) | (go_simp; rfl)
  · obtain ⟨pos, after, hop⟩ := op17_2
    have e76 : a.eval (.tmp 76) = (.string nm) := eval_tmp (hj 1 (by decide))
    have be3 : ¬ nm.toList = ([101, 110, 115, 117, 114, 101] : List UInt8) := by simpa using be2
    refine op_yields hop (wanted_none rfl _) ?_ hs rfl
    clear hj ho hop hdone hS hcall
    have ec : ∀ v, a.eval (.const v) = v := fun _ => rfl
    clear hsa hk
    generalize a.eval = ev at *
    first | (go_simp; done) | (go_simp; rfl) | (go_simp; exact be3)
  · obtain ⟨pos, after, hop⟩ := op17_3
    have e77 : a.eval (.tmp 77) = (.bool true) := eval_tmp (hj 2 (by decide))
    refine op_yields hop (wanted_none rfl _) ?_ hs rfl
    clear hj ho hop hdone hS hcall
    have ec : ∀ v, a.eval (.const v) = v := fun _ => rfl
    clear hsa hk
    generalize a.eval = ev at *
    first | (go_simp; done) | (go_simp; rfl)
  · obtain ⟨pos, after, hop⟩ := op17_4
    have e14 : a.eval (.tmp 14) = (.bool true) := eval_tmp ((ho 14 (by decide)).trans h14)
    refine op_yields hop ((wanted_some rfl dst17_3 (hj 3 (by decide))).trans rfl) ?_ hs rfl
    clear hj ho hop hdone hS hcall
    have ec : ∀ v, a.eval (.const v) = v := fun _ => rfl
    clear hsa hk
    generalize a.eval = ev at *
    first | (go_simp; done) | (go_simp; rfl)
  · obtain ⟨pos, after, hop⟩ := op17_5
    have e79 : a.eval (.tmp 79) = (.bool true) := eval_tmp (hj 4 (by decide))
    refine op_yields hop ((wanted_some rfl dst17_3 (hj 3 (by decide))).trans rfl) ?_ hs rfl
    clear hj ho hop hdone hS hcall
    have ec : ∀ v, a.eval (.const v) = v := fun _ => rfl
    clear hsa hk
    generalize a.eval = ev at *
    first | (go_simp; done) | (go_simp; rfl)
  · obtain ⟨pos, after, hop⟩ := op17_6
    have e80 : a.eval (.tmp 80) = (.bool false) := eval_tmp (hj 5 (by decide))
    refine op_yields hop ((wanted_some rfl dst17_3 (hj 3 (by decide))).trans rfl) ?_ hs rfl
    clear hj ho hop hdone hS hcall
    have ec : ∀ v, a.eval (.const v) = v := fun _ => rfl
    clear hsa hk
    generalize a.eval = ev at *
    first | (go_simp; done) | (go_simp; rfl)
  · obtain ⟨pos, after, hop⟩ := op17_7
    have e13 : a.eval (.tmp 13) = (.pointer (some ⟨gx, 0, none⟩)) := eval_tmp ((ho 13 (by decide)).trans h13)
    refine op_yields hop ((wanted_some rfl dst17_6 (hj 6 (by decide))).trans rfl) ?_ hs rfl
    clear hj ho hop hdone hS hcall
    have ec : ∀ v, a.eval (.const v) = v := fun _ => rfl
    clear hsa hk
    generalize a.eval = ev at *
    first | (go_simp; done) | (go_simp; rfl)
  · obtain ⟨pos, after, hop⟩ := op17_8
    have e82 : a.eval (.tmp 82) = (.pointer (some ⟨gx, 2, none⟩)) := eval_tmp (hj 7 (by decide))
    have c_k3 := k3 W hs
    refine op_yields hop ((wanted_some rfl dst17_6 (hj 6 (by decide))).trans rfl) ?_ hs rfl
    clear hj ho hop hdone hS hcall
    have ec : ∀ v, a.eval (.const v) = v := fun _ => rfl
    clear hsa hk
    generalize a.eval = ev at *
    first | (go_simp; done) | (go_simp; rfl)
  · obtain ⟨pos, after, hop⟩ := op17_9
    have e12 : a.eval (.tmp 12) = (.pointer (some ⟨gp, 0, none⟩)) := eval_tmp ((ho 12 (by decide)).trans h12)
    refine op_yields hop ((wanted_some rfl dst17_6 (hj 6 (by decide))).trans rfl) ?_ hs rfl
    clear hj ho hop hdone hS hcall
    have ec : ∀ v, a.eval (.const v) = v := fun _ => rfl
    clear hsa hk
    generalize a.eval = ev at *
    first | (go_simp; done) | (go_simp; rfl)
  · obtain ⟨pos, after, hop⟩ := op17_10
    have e84 : a.eval (.tmp 84) = (.pointer (some ⟨gp, 1, none⟩)) := eval_tmp (hj 9 (by decide))
    have c_k2 := k2 W hs
    refine op_yields hop ((wanted_some rfl dst17_6 (hj 6 (by decide))).trans rfl) ?_ hs rfl
    clear hj ho hop hdone hS hcall
    have ec : ∀ v, a.eval (.const v) = v := fun _ => rfl
    clear hsa hk
    generalize a.eval = ev at *
    first | (go_simp; done) | (go_simp; rfl)
  · obtain ⟨pos, after, hop⟩ := op17_11
    have e83 : a.eval (.tmp 83) = (.func (.func g) #[] lb) := eval_tmp (hj 8 (by decide))
    have e85 : a.eval (.tmp 85) = (.string vl) := eval_tmp (hj 10 (by decide))
    refine op_step hop ((wanted_some rfl dst17_6 (hj 6 (by decide))).trans rfl) (fun K hK => ?_)
    have hc := hcall W hs
    have ec : ∀ v, a.eval (.const v) = v := fun _ => rfl
    clear hj ho hop hdone hS hcall hsa hk
    unfold Oper.wp
    simp only [execOp]
    generalize a.eval = ev at *
    have HC0 := As.mk hc
    clear hc
    go_simp
    refine HC0.out.mono ?_
    rintro e w1 ⟨rfl, hs1⟩
    exact hK _ _ ⟨rfl, hs1⟩
  · obtain ⟨pos, after, hop⟩ := op17_12
    have e86 : a.eval (.tmp 86) = (.bool true) := eval_tmp (hj 11 (by decide))
    refine op_yields hop ((wanted_some rfl dst17_6 (hj 6 (by decide))).trans rfl) ?_ hs rfl
    clear hj ho hop hdone hS hcall
    have ec : ∀ v, a.eval (.const v) = v := fun _ => rfl
    clear hsa hk
    generalize a.eval = ev at *
    first | (go_simp; done) | (go_simp; rfl)
  · obtain ⟨pos, after, hop⟩ := op17_13
    have e81 : a.eval (.tmp 81) = (.bool false) := eval_tmp (hj 6 (by decide))
    have e87 : a.eval (.tmp 87) = (.bool false) := eval_tmp (hj 12 (by decide))
    refine op_yields hop ((wanted_some rfl dst17_3 (hj 3 (by decide))).trans rfl) ?_ hs rfl
    clear hj ho hop hdone hS hcall
    have ec : ∀ v, a.eval (.const v) = v := fun _ => rfl
    clear hsa hk
    generalize a.eval = ev at *
    first | (go_simp; done) | (go_simp; rfl)
  · obtain ⟨pos, after, hop⟩ := op17_14
    have e78 : a.eval (.tmp 78) = (.bool true) := eval_tmp (hj 3 (by decide))
    have e88 : a.eval (.tmp 88) = (.bool false) := eval_tmp (hj 13 (by decide))
    refine op_yields hop (wanted_none rfl _) ?_ hs rfl
    clear hj ho hop hdone hS hcall
    have ec : ∀ v, a.eval (.const v) = v := fun _ => rfl
    clear hsa hk
    generalize a.eval = ev at *
    first | (go_simp; done) | (go_simp; rfl)
  · obtain ⟨pos, after, hop⟩ := op17_15
    have e89 : a.eval (.tmp 89) = (.bool false) := eval_tmp (hj 14 (by decide))
    refine op_yields hop (wanted_none rfl _) ?_ hs rfl
    clear hj ho hop hdone hS hcall
    have ec : ∀ v, a.eval (.const v) = v := fun _ => rfl
    clear hsa hk
    generalize a.eval = ev at *
    first | (go_simp; done) | (go_simp; rfl)
  · obtain ⟨pos, after, hop⟩ := op17_16
    have e11 : a.eval (.tmp 11) = (.int .i64 (i : Int)) := eval_tmp ((ho 11 (by decide)).trans h11)
    refine op_yields hop ((wanted_some rfl dst17_15 (hj 15 (by decide))).trans rfl) ?_ hs rfl
    clear hj ho hop hdone hS hcall
    have ec : ∀ v, a.eval (.const v) = v := fun _ => rfl
    clear hsa hk
    generalize a.eval = ev at *
    first | (go_simp; done) | (go_simp; rfl)
  · obtain ⟨pos, after, hop⟩ := op17_17
    have e91 : a.eval (.tmp 91) = (.int .i64 (i : Int)) := eval_tmp (hj 16 (by decide))
    have hz3 : i = 0 := by simpa using hz
    refine op_yields hop ((wanted_some rfl dst17_15 (hj 15 (by decide))).trans rfl) ?_ hs rfl
    clear hj ho hop hdone hS hcall
    have ec : ∀ v, a.eval (.const v) = v := fun _ => rfl
    clear hsa hk
    generalize a.eval = ev at *
    first | (go_simp; done) | (go_simp; rfl) | (go_simp; exact hz3)
  · obtain ⟨pos, after, hop⟩ := op17_18
    have e92 : a.eval (.tmp 92) = (.bool false) := eval_tmp (hj 17 (by decide))
    refine op_yields hop ((wanted_some rfl dst17_15 (hj 15 (by decide))).trans rfl) ?_ hs rfl
    clear hj ho hop hdone hS hcall
    have ec : ∀ v, a.eval (.const v) = v := fun _ => rfl
    clear hsa hk
    generalize a.eval = ev at *
    first | (go_simp; done) | (go_simp; rfl)
  · obtain ⟨pos, after, hop⟩ := op17_19
    exact op_struck hop ((wanted_some rfl dst17_18 (hj 18 (by decide))).trans rfl) hs rfl
  · obtain ⟨pos, after, hop⟩ := op17_20
    exact op_struck hop ((wanted_some rfl dst17_18 (hj 18 (by decide))).trans rfl) hs rfl
  · obtain ⟨pos, after, hop⟩ := op17_21
    exact op_struck hop ((wanted_some rfl dst17_18 (hj 18 (by decide))).trans rfl) hs rfl
  · obtain ⟨pos, after, hop⟩ := op17_22
    exact op_struck hop ((wanted_some rfl dst17_18 (hj 18 (by decide))).trans rfl) hs rfl
  · obtain ⟨pos, after, hop⟩ := op17_23
    exact op_struck hop ((wanted_some rfl dst17_18 (hj 18 (by decide))).trans rfl) hs rfl
  · obtain ⟨pos, after, hop⟩ := op17_24
    exact op_struck hop ((wanted_some rfl dst17_18 (hj 18 (by decide))).trans rfl) hs rfl
  · obtain ⟨pos, after, hop⟩ := op17_25
    exact op_struck hop ((wanted_some rfl dst17_18 (hj 18 (by decide))).trans rfl) hs rfl
  · obtain ⟨pos, after, hop⟩ := op17_26
    exact op_struck hop ((wanted_some rfl dst17_18 (hj 18 (by decide))).trans rfl) hs rfl
  · obtain ⟨pos, after, hop⟩ := op17_27
    exact op_struck hop ((wanted_some rfl dst17_18 (hj 18 (by decide))).trans rfl) hs rfl
  · obtain ⟨pos, after, hop⟩ := op17_28
    exact op_struck hop ((wanted_some rfl dst17_18 (hj 18 (by decide))).trans rfl) hs rfl
  · obtain ⟨pos, after, hop⟩ := op17_29
    have e93 : a.eval (.tmp 93) = (.bool false) := eval_tmp (hj 18 (by decide))
    have e103 : a.eval (.tmp 103) = undef := eval_tmp (hj 28 (by decide))
    refine op_yields hop ((wanted_some rfl dst17_15 (hj 15 (by decide))).trans rfl) ?_ hs rfl
    clear hj ho hop hdone hS hcall
    have ec : ∀ v, a.eval (.const v) = v := fun _ => rfl
    clear hsa hk
    generalize a.eval = ev at *
    first | (go_simp; done) | (go_simp; rfl)
  · obtain ⟨pos, after, hop⟩ := op17_30
    have e90 : a.eval (.tmp 90) = (.bool false) := eval_tmp (hj 15 (by decide))
    have e104 : a.eval (.tmp 104) = (.bool false) := eval_tmp (hj 29 (by decide))
    refine op_yields hop (wanted_none rfl _) ?_ hs rfl
    clear hj ho hop hdone hS hcall
    have ec : ∀ v, a.eval (.const v) = v := fun _ => rfl
    clear hsa hk
    generalize a.eval = ev at *
    first | (go_simp; done) | (go_simp; rfl)
set_option maxRecDepth 100000 in
set_option maxHeartbeats 4000000 in
theorem r17_Dle {Q : Exit → Act → World → Prop} {id : Nat} {a0 : Act} {w : World} (S : World → Prop) (gp gx g1 : Nat) (i : Nat) (nm vl : ByteArray) (h11 : a0.tmps[11]? = some (.int .i64 (i : Int))) (h12 : a0.tmps[12]? = some (.pointer (some ⟨gp, 0, none⟩))) (h13 : a0.tmps[13]? = some (.pointer (some ⟨gx, 0, none⟩))) (h14 : a0.tmps[14]? = some (.bool true)) (h1 : a0.tmps[1]? = some (.pointer (some ⟨g1, 0, none⟩))) (hsz : a0.tmps.size = 162) (hS : S w.drew) (k1 : ∀ W, S W → W.cell? ⟨gp, 0, none⟩ = some (.string nm)) (be2 : (nm.toList != ([101, 110, 115, 117, 114, 101] : List UInt8)) = true) (g : Nat) (lb : Array Value) (eg : ∀ args w, (callFunc g args).run Tryz.prog w = .ok (.enter g args) w) (k2 : ∀ W, S W → W.cell? ⟨gp, 1, none⟩ = some (.string vl)) (k3 : ∀ W, S W → W.cell? ⟨gx, 2, none⟩ = some (.func (.func g) #[] lb)) (hcall : ∀ W, S W → Calls Tryz.prog g (#[.string vl] ++ lb) W fun e w' => e = .returned (.bool true) ∧ S w') (hz : decide ((0 : Int) < (i : Int)) = true) (l0_2 : List S31) (c0_2 : Nat) (ad : Addr) (pn : ByteArray) (hw1 : IntKind.i64.wrap ((i : Int) - 1) = (i : Int) - 1) (hv0 : (0 : Int) ≤ (i : Int) - 1) (hv1 : (i : Int) - 1 < (l0_2.length : Int)) (k4 : ∀ W, S W → W.cell? ⟨g1, 2, none⟩ = some (.slice (some ad) l0_2.length c0_2)) (k5 : ∀ W, S W → W.cell? (ad.add ((i - 1) * 2)) = some (.string pn)) (hle : (Op.bytesLess nm.toList pn.toList || nm.toList == pn.toList) = true)
    (hdone : ∀ W, S W → Q .normal (actE a0 (List.replicate 31 true) d17 ([(.pointer (some ⟨gp, 0, none⟩)), (.string nm), (.bool true), (.bool true), (.bool true), (.bool false), (.bool false), (.pointer (some ⟨gx, 2, none⟩)), (.func (.func g) #[] lb), (.pointer (some ⟨gp, 1, none⟩)), (.string vl), (.bool true), (.bool false), (.bool false), (.bool false), (.bool false), (.int .i64 (i : Int)), (.bool true), (.bool true), (.pointer (some ⟨gp, 0, none⟩)), (.string nm), (.pointer (some ⟨g1, 2, none⟩)), (.slice (some ad) l0_2.length c0_2), (.int .i64 (i : Int)), (.int .i64 ((i : Int) - 1)), (.pointer (some (ad.add ((i - 1) * 2)))), (.pointer (some (ad.add ((i - 1) * 2)))), (.string pn), (.bool true), (.bool true), (.bool true)] : List Value)) W) : (Code.region id (opsOf Tryz.f11 17) true).wp Tryz.prog Q a0 w := by
  have hu24 := Tryz.underlying24
  have hu31 := Tryz.underlying31
  have hu68 := Tryz.underlying68
  have hu22 := Tryz.underlying22
  refine region_exp (N := n17) (D := d17) (E := ([(.pointer (some ⟨gp, 0, none⟩)), (.string nm), (.bool true), (.bool true), (.bool true), (.bool false), (.bool false), (.pointer (some ⟨gx, 2, none⟩)), (.func (.func g) #[] lb), (.pointer (some ⟨gp, 1, none⟩)), (.string vl), (.bool true), (.bool false), (.bool false), (.bool false), (.bool false), (.int .i64 (i : Int)), (.bool true), (.bool true), (.pointer (some ⟨gp, 0, none⟩)), (.string nm), (.pointer (some ⟨g1, 2, none⟩)), (.slice (some ad) l0_2.length c0_2), (.int .i64 (i : Int)), (.int .i64 ((i : Int) - 1)), (.pointer (some (ad.add ((i - 1) * 2)))), (.pointer (some (ad.add ((i - 1) * 2)))), (.string pn), (.bool true), (.bool true), (.bool true)] : List Value)) S t17 (by kernel_rfl) (by decide) rfl rfl (by decide) (by intro d hd; rw [hsz]; revert d; decide) hS ?_ hdone
  intro k hk a W hs hsa hj ho
  have hcase : k = 0 ∨ k = 1 ∨ k = 2 ∨ k = 3 ∨ k = 4 ∨ k = 5 ∨ k = 6 ∨ k = 7 ∨ k = 8 ∨ k = 9 ∨ k = 10 ∨ k = 11 ∨ k = 12 ∨ k = 13 ∨ k = 14 ∨ k = 15 ∨ k = 16 ∨ k = 17 ∨ k = 18 ∨ k = 19 ∨ k = 20 ∨ k = 21 ∨ k = 22 ∨ k = 23 ∨ k = 24 ∨ k = 25 ∨ k = 26 ∨ k = 27 ∨ k = 28 ∨ k = 29 ∨ k = 30 := by have : n17.length = 31 := rfl; omega
  rcases hcase with rfl | rfl | rfl | rfl | rfl | rfl | rfl | rfl | rfl | rfl | rfl | rfl | rfl | rfl | rfl | rfl | rfl | rfl | rfl | rfl | rfl | rfl | rfl | rfl | rfl | rfl | rfl | rfl | rfl | rfl | rfl
  · obtain ⟨pos, after, hop⟩ := op17_0
    have e12 : a.eval (.tmp 12) = (.pointer (some ⟨gp, 0, none⟩)) := eval_tmp ((ho 12 (by decide)).trans h12)
    refine op_yields hop (wanted_none rfl _) ?_ hs rfl
    clear hj ho hop hdone hS hcall
    have ec : ∀ v, a.eval (.const v) = v := fun _ => rfl
    clear hsa hk
    generalize a.eval = ev at *
    first | (go_simp; done) | (go_simp; rfl)
  · obtain ⟨pos, after, hop⟩ := op17_1
    have e75 : a.eval (.tmp 75) = (.pointer (some ⟨gp, 0, none⟩)) := eval_tmp (hj 0 (by decide))
    have c_k1 := k1 W hs
    refine op_yields hop (wanted_none rfl _) ?_ hs rfl
    clear hj ho hop hdone hS hcall
    have ec : ∀ v, a.eval (.const v) = v := fun _ => rfl
    clear hsa hk
    generalize a.eval = ev at *
    first | (go_simp; done) | (go_simp; rfl)
  · obtain ⟨pos, after, hop⟩ := op17_2
    have e76 : a.eval (.tmp 76) = (.string nm) := eval_tmp (hj 1 (by decide))
    have be3 : ¬ nm.toList = ([101, 110, 115, 117, 114, 101] : List UInt8) := by simpa using be2
    refine op_yields hop (wanted_none rfl _) ?_ hs rfl
    clear hj ho hop hdone hS hcall
    have ec : ∀ v, a.eval (.const v) = v := fun _ => rfl
    clear hsa hk
    generalize a.eval = ev at *
    first | (go_simp; done) | (go_simp; rfl) | (go_simp; exact be3)
  · obtain ⟨pos, after, hop⟩ := op17_3
    have e77 : a.eval (.tmp 77) = (.bool true) := eval_tmp (hj 2 (by decide))
    refine op_yields hop (wanted_none rfl _) ?_ hs rfl
    clear hj ho hop hdone hS hcall
    have ec : ∀ v, a.eval (.const v) = v := fun _ => rfl
    clear hsa hk
    generalize a.eval = ev at *
    first | (go_simp; done) | (go_simp; rfl)
  · obtain ⟨pos, after, hop⟩ := op17_4
    have e14 : a.eval (.tmp 14) = (.bool true) := eval_tmp ((ho 14 (by decide)).trans h14)
    refine op_yields hop ((wanted_some rfl dst17_3 (hj 3 (by decide))).trans rfl) ?_ hs rfl
    clear hj ho hop hdone hS hcall
    have ec : ∀ v, a.eval (.const v) = v := fun _ => rfl
    clear hsa hk
    generalize a.eval = ev at *
    first | (go_simp; done) | (go_simp; rfl)
  · obtain ⟨pos, after, hop⟩ := op17_5
    have e79 : a.eval (.tmp 79) = (.bool true) := eval_tmp (hj 4 (by decide))
    refine op_yields hop ((wanted_some rfl dst17_3 (hj 3 (by decide))).trans rfl) ?_ hs rfl
    clear hj ho hop hdone hS hcall
    have ec : ∀ v, a.eval (.const v) = v := fun _ => rfl
    clear hsa hk
    generalize a.eval = ev at *
    first | (go_simp; done) | (go_simp; rfl)
  · obtain ⟨pos, after, hop⟩ := op17_6
    have e80 : a.eval (.tmp 80) = (.bool false) := eval_tmp (hj 5 (by decide))
    refine op_yields hop ((wanted_some rfl dst17_3 (hj 3 (by decide))).trans rfl) ?_ hs rfl
    clear hj ho hop hdone hS hcall
    have ec : ∀ v, a.eval (.const v) = v := fun _ => rfl
    clear hsa hk
    generalize a.eval = ev at *
    first | (go_simp; done) | (go_simp; rfl)
  · obtain ⟨pos, after, hop⟩ := op17_7
    have e13 : a.eval (.tmp 13) = (.pointer (some ⟨gx, 0, none⟩)) := eval_tmp ((ho 13 (by decide)).trans h13)
    refine op_yields hop ((wanted_some rfl dst17_6 (hj 6 (by decide))).trans rfl) ?_ hs rfl
    clear hj ho hop hdone hS hcall
    have ec : ∀ v, a.eval (.const v) = v := fun _ => rfl
    clear hsa hk
    generalize a.eval = ev at *
    first | (go_simp; done) | (go_simp; rfl)
  · obtain ⟨pos, after, hop⟩ := op17_8
    have e82 : a.eval (.tmp 82) = (.pointer (some ⟨gx, 2, none⟩)) := eval_tmp (hj 7 (by decide))
    have c_k3 := k3 W hs
    refine op_yields hop ((wanted_some rfl dst17_6 (hj 6 (by decide))).trans rfl) ?_ hs rfl
    clear hj ho hop hdone hS hcall
    have ec : ∀ v, a.eval (.const v) = v := fun _ => rfl
    clear hsa hk
    generalize a.eval = ev at *
    first | (go_simp; done) | (go_simp; rfl)
  · obtain ⟨pos, after, hop⟩ := op17_9
    have e12 : a.eval (.tmp 12) = (.pointer (some ⟨gp, 0, none⟩)) := eval_tmp ((ho 12 (by decide)).trans h12)
    refine op_yields hop ((wanted_some rfl dst17_6 (hj 6 (by decide))).trans rfl) ?_ hs rfl
    clear hj ho hop hdone hS hcall
    have ec : ∀ v, a.eval (.const v) = v := fun _ => rfl
    clear hsa hk
    generalize a.eval = ev at *
    first | (go_simp; done) | (go_simp; rfl)
  · obtain ⟨pos, after, hop⟩ := op17_10
    have e84 : a.eval (.tmp 84) = (.pointer (some ⟨gp, 1, none⟩)) := eval_tmp (hj 9 (by decide))
    have c_k2 := k2 W hs
    refine op_yields hop ((wanted_some rfl dst17_6 (hj 6 (by decide))).trans rfl) ?_ hs rfl
    clear hj ho hop hdone hS hcall
    have ec : ∀ v, a.eval (.const v) = v := fun _ => rfl
    clear hsa hk
    generalize a.eval = ev at *
    first | (go_simp; done) | (go_simp; rfl)
  · obtain ⟨pos, after, hop⟩ := op17_11
    have e83 : a.eval (.tmp 83) = (.func (.func g) #[] lb) := eval_tmp (hj 8 (by decide))
    have e85 : a.eval (.tmp 85) = (.string vl) := eval_tmp (hj 10 (by decide))
    refine op_step hop ((wanted_some rfl dst17_6 (hj 6 (by decide))).trans rfl) (fun K hK => ?_)
    have hc := hcall W hs
    have ec : ∀ v, a.eval (.const v) = v := fun _ => rfl
    clear hj ho hop hdone hS hcall hsa hk
    unfold Oper.wp
    simp only [execOp]
    generalize a.eval = ev at *
    have HC0 := As.mk hc
    clear hc
    go_simp
    refine HC0.out.mono ?_
    rintro e w1 ⟨rfl, hs1⟩
    exact hK _ _ ⟨rfl, hs1⟩
  · obtain ⟨pos, after, hop⟩ := op17_12
    have e86 : a.eval (.tmp 86) = (.bool true) := eval_tmp (hj 11 (by decide))
    refine op_yields hop ((wanted_some rfl dst17_6 (hj 6 (by decide))).trans rfl) ?_ hs rfl
    clear hj ho hop hdone hS hcall
    have ec : ∀ v, a.eval (.const v) = v := fun _ => rfl
    clear hsa hk
    generalize a.eval = ev at *
    first | (go_simp; done) | (go_simp; rfl)
  · obtain ⟨pos, after, hop⟩ := op17_13
    have e81 : a.eval (.tmp 81) = (.bool false) := eval_tmp (hj 6 (by decide))
    have e87 : a.eval (.tmp 87) = (.bool false) := eval_tmp (hj 12 (by decide))
    refine op_yields hop ((wanted_some rfl dst17_3 (hj 3 (by decide))).trans rfl) ?_ hs rfl
    clear hj ho hop hdone hS hcall
    have ec : ∀ v, a.eval (.const v) = v := fun _ => rfl
    clear hsa hk
    generalize a.eval = ev at *
    first | (go_simp; done) | (go_simp; rfl)
  · obtain ⟨pos, after, hop⟩ := op17_14
    have e78 : a.eval (.tmp 78) = (.bool true) := eval_tmp (hj 3 (by decide))
    have e88 : a.eval (.tmp 88) = (.bool false) := eval_tmp (hj 13 (by decide))
    refine op_yields hop (wanted_none rfl _) ?_ hs rfl
    clear hj ho hop hdone hS hcall
    have ec : ∀ v, a.eval (.const v) = v := fun _ => rfl
    clear hsa hk
    generalize a.eval = ev at *
    first | (go_simp; done) | (go_simp; rfl)
  · obtain ⟨pos, after, hop⟩ := op17_15
    have e89 : a.eval (.tmp 89) = (.bool false) := eval_tmp (hj 14 (by decide))
    refine op_yields hop (wanted_none rfl _) ?_ hs rfl
    clear hj ho hop hdone hS hcall
    have ec : ∀ v, a.eval (.const v) = v := fun _ => rfl
    clear hsa hk
    generalize a.eval = ev at *
    first | (go_simp; done) | (go_simp; rfl)
  · obtain ⟨pos, after, hop⟩ := op17_16
    have e11 : a.eval (.tmp 11) = (.int .i64 (i : Int)) := eval_tmp ((ho 11 (by decide)).trans h11)
    refine op_yields hop ((wanted_some rfl dst17_15 (hj 15 (by decide))).trans rfl) ?_ hs rfl
    clear hj ho hop hdone hS hcall
    have ec : ∀ v, a.eval (.const v) = v := fun _ => rfl
    clear hsa hk
    generalize a.eval = ev at *
    first | (go_simp; done) | (go_simp; rfl)
  · obtain ⟨pos, after, hop⟩ := op17_17
    have e91 : a.eval (.tmp 91) = (.int .i64 (i : Int)) := eval_tmp (hj 16 (by decide))
    have hz3 : 0 < i := by simpa using hz
    refine op_yields hop ((wanted_some rfl dst17_15 (hj 15 (by decide))).trans rfl) ?_ hs rfl
    clear hj ho hop hdone hS hcall
    have ec : ∀ v, a.eval (.const v) = v := fun _ => rfl
    clear hsa hk
    generalize a.eval = ev at *
    first | (go_simp; done) | (go_simp; rfl) | (go_simp; exact hz3)
  · obtain ⟨pos, after, hop⟩ := op17_18
    have e92 : a.eval (.tmp 92) = (.bool true) := eval_tmp (hj 17 (by decide))
    refine op_yields hop ((wanted_some rfl dst17_15 (hj 15 (by decide))).trans rfl) ?_ hs rfl
    clear hj ho hop hdone hS hcall
    have ec : ∀ v, a.eval (.const v) = v := fun _ => rfl
    clear hsa hk
    generalize a.eval = ev at *
    first | (go_simp; done) | (go_simp; rfl)
  · obtain ⟨pos, after, hop⟩ := op17_19
    have e12 : a.eval (.tmp 12) = (.pointer (some ⟨gp, 0, none⟩)) := eval_tmp ((ho 12 (by decide)).trans h12)
    refine op_yields hop ((wanted_some rfl dst17_18 (hj 18 (by decide))).trans rfl) ?_ hs rfl
    clear hj ho hop hdone hS hcall
    have ec : ∀ v, a.eval (.const v) = v := fun _ => rfl
    clear hsa hk
    generalize a.eval = ev at *
    first | (go_simp; done) | (go_simp; rfl)
  · obtain ⟨pos, after, hop⟩ := op17_20
    have e94 : a.eval (.tmp 94) = (.pointer (some ⟨gp, 0, none⟩)) := eval_tmp (hj 19 (by decide))
    have c_k1 := k1 W hs
    refine op_yields hop ((wanted_some rfl dst17_18 (hj 18 (by decide))).trans rfl) ?_ hs rfl
    clear hj ho hop hdone hS hcall
    have ec : ∀ v, a.eval (.const v) = v := fun _ => rfl
    clear hsa hk
    generalize a.eval = ev at *
    first | (go_simp; done) | (go_simp; rfl)
  · obtain ⟨pos, after, hop⟩ := op17_21
    have e1 : a.eval (.tmp 1) = (.pointer (some ⟨g1, 0, none⟩)) := eval_tmp ((ho 1 (by decide)).trans h1)
    refine op_yields hop ((wanted_some rfl dst17_18 (hj 18 (by decide))).trans rfl) ?_ hs rfl
    clear hj ho hop hdone hS hcall
    have ec : ∀ v, a.eval (.const v) = v := fun _ => rfl
    clear hsa hk
    generalize a.eval = ev at *
    first | (go_simp; done) | (go_simp; rfl)
  · obtain ⟨pos, after, hop⟩ := op17_22
    have e96 : a.eval (.tmp 96) = (.pointer (some ⟨g1, 2, none⟩)) := eval_tmp (hj 21 (by decide))
    have c_k4 := k4 W hs
    refine op_yields hop ((wanted_some rfl dst17_18 (hj 18 (by decide))).trans rfl) ?_ hs rfl
    clear hj ho hop hdone hS hcall
    have ec : ∀ v, a.eval (.const v) = v := fun _ => rfl
    clear hsa hk
    generalize a.eval = ev at *
    first | (go_simp; done) | (go_simp; rfl)
  · obtain ⟨pos, after, hop⟩ := op17_23
    have e11 : a.eval (.tmp 11) = (.int .i64 (i : Int)) := eval_tmp ((ho 11 (by decide)).trans h11)
    refine op_yields hop ((wanted_some rfl dst17_18 (hj 18 (by decide))).trans rfl) ?_ hs rfl
    clear hj ho hop hdone hS hcall
    have ec : ∀ v, a.eval (.const v) = v := fun _ => rfl
    clear hsa hk
    generalize a.eval = ev at *
    first | (go_simp; done) | (go_simp; rfl)
  · obtain ⟨pos, after, hop⟩ := op17_24
    have e98 : a.eval (.tmp 98) = (.int .i64 (i : Int)) := eval_tmp (hj 23 (by decide))
    refine op_yields hop ((wanted_some rfl dst17_18 (hj 18 (by decide))).trans rfl) ?_ hs rfl
    clear hj ho hop hdone hS hcall
    have ec : ∀ v, a.eval (.const v) = v := fun _ => rfl
    clear hsa hk
    generalize a.eval = ev at *
    first | (go_simp; done) | (go_simp; rfl)
  · obtain ⟨pos, after, hop⟩ := op17_25
    have e97 : a.eval (.tmp 97) = (.slice (some ad) l0_2.length c0_2) := eval_tmp (hj 22 (by decide))
    have e99 : a.eval (.tmp 99) = (.int .i64 ((i : Int) - 1)) := eval_tmp (hj 24 (by decide))
    have hv2 : ¬ ((i : Int) < 1) := by omega
    have hv3 : ¬ (l0_2.length : Int) ≤ (i : Int) - 1 := by omega
    refine op_yields hop ((wanted_some rfl dst17_18 (hj 18 (by decide))).trans rfl) ?_ hs rfl
    clear hj ho hop hdone hS hcall
    have ec : ∀ v, a.eval (.const v) = v := fun _ => rfl
    clear hsa hk
    generalize a.eval = ev at *
    first | (go_simp; done) | (go_simp; rfl)
  · obtain ⟨pos, after, hop⟩ := op17_26
    have e100 : a.eval (.tmp 100) = (.pointer (some (ad.add ((i - 1) * 2)))) := eval_tmp (hj 25 (by decide))
    refine op_yields hop ((wanted_some rfl dst17_18 (hj 18 (by decide))).trans rfl) ?_ hs rfl
    clear hj ho hop hdone hS hcall
    have ec : ∀ v, a.eval (.const v) = v := fun _ => rfl
    clear hsa hk
    generalize a.eval = ev at *
    first | (go_simp; done) | (go_simp; rfl)
  · obtain ⟨pos, after, hop⟩ := op17_27
    have e101 : a.eval (.tmp 101) = (.pointer (some (ad.add ((i - 1) * 2)))) := eval_tmp (hj 26 (by decide))
    have c_k5 := k5 W hs
    refine op_yields hop ((wanted_some rfl dst17_18 (hj 18 (by decide))).trans rfl) ?_ hs rfl
    clear hj ho hop hdone hS hcall
    have ec : ∀ v, a.eval (.const v) = v := fun _ => rfl
    clear hsa hk
    generalize a.eval = ev at *
    first | (go_simp; done) | (go_simp; rfl)
  · obtain ⟨pos, after, hop⟩ := op17_28
    have e95 : a.eval (.tmp 95) = (.string nm) := eval_tmp (hj 20 (by decide))
    have e102 : a.eval (.tmp 102) = (.string pn) := eval_tmp (hj 27 (by decide))
    have hle3 := hle
    simp at hle3
    refine op_yields hop ((wanted_some rfl dst17_18 (hj 18 (by decide))).trans rfl) ?_ hs rfl
    clear hj ho hop hdone hS hcall
    have ec : ∀ v, a.eval (.const v) = v := fun _ => rfl
    clear hsa hk
    generalize a.eval = ev at *
    first | (go_simp; done) | (go_simp; rfl) | (go_simp; exact hle3)
  · obtain ⟨pos, after, hop⟩ := op17_29
    have e93 : a.eval (.tmp 93) = (.bool true) := eval_tmp (hj 18 (by decide))
    have e103 : a.eval (.tmp 103) = (.bool true) := eval_tmp (hj 28 (by decide))
    refine op_yields hop ((wanted_some rfl dst17_15 (hj 15 (by decide))).trans rfl) ?_ hs rfl
    clear hj ho hop hdone hS hcall
    have ec : ∀ v, a.eval (.const v) = v := fun _ => rfl
    clear hsa hk
    generalize a.eval = ev at *
    first | (go_simp; done) | (go_simp; rfl)
  · obtain ⟨pos, after, hop⟩ := op17_30
    have e90 : a.eval (.tmp 90) = (.bool false) := eval_tmp (hj 15 (by decide))
    have e104 : a.eval (.tmp 104) = (.bool true) := eval_tmp (hj 29 (by decide))
    refine op_yields hop (wanted_none rfl _) ?_ hs rfl
    clear hj ho hop hdone hS hcall
    have ec : ∀ v, a.eval (.const v) = v := fun _ => rfl
    clear hsa hk
    generalize a.eval = ev at *
    first | (go_simp; done) | (go_simp; rfl)
set_option maxRecDepth 100000 in
set_option maxHeartbeats 4000000 in
theorem r17_Dok {Q : Exit → Act → World → Prop} {id : Nat} {a0 : Act} {w : World} (S : World → Prop) (gp gx g1 : Nat) (i : Nat) (nm vl : ByteArray) (h11 : a0.tmps[11]? = some (.int .i64 (i : Int))) (h12 : a0.tmps[12]? = some (.pointer (some ⟨gp, 0, none⟩))) (h13 : a0.tmps[13]? = some (.pointer (some ⟨gx, 0, none⟩))) (h14 : a0.tmps[14]? = some (.bool true)) (h1 : a0.tmps[1]? = some (.pointer (some ⟨g1, 0, none⟩))) (hsz : a0.tmps.size = 162) (hS : S w.drew) (k1 : ∀ W, S W → W.cell? ⟨gp, 0, none⟩ = some (.string nm)) (be2 : (nm.toList != ([101, 110, 115, 117, 114, 101] : List UInt8)) = true) (g : Nat) (lb : Array Value) (eg : ∀ args w, (callFunc g args).run Tryz.prog w = .ok (.enter g args) w) (k2 : ∀ W, S W → W.cell? ⟨gp, 1, none⟩ = some (.string vl)) (k3 : ∀ W, S W → W.cell? ⟨gx, 2, none⟩ = some (.func (.func g) #[] lb)) (hcall : ∀ W, S W → Calls Tryz.prog g (#[.string vl] ++ lb) W fun e w' => e = .returned (.bool true) ∧ S w') (hz : decide ((0 : Int) < (i : Int)) = true) (l0_2 : List S31) (c0_2 : Nat) (ad : Addr) (pn : ByteArray) (hw1 : IntKind.i64.wrap ((i : Int) - 1) = (i : Int) - 1) (hv0 : (0 : Int) ≤ (i : Int) - 1) (hv1 : (i : Int) - 1 < (l0_2.length : Int)) (k4 : ∀ W, S W → W.cell? ⟨g1, 2, none⟩ = some (.slice (some ad) l0_2.length c0_2)) (k5 : ∀ W, S W → W.cell? (ad.add ((i - 1) * 2)) = some (.string pn)) (hle : (Op.bytesLess nm.toList pn.toList || nm.toList == pn.toList) = false)
    (hdone : ∀ W, S W → Q .normal (actE a0 (List.replicate 31 true) d17 ([(.pointer (some ⟨gp, 0, none⟩)), (.string nm), (.bool true), (.bool true), (.bool true), (.bool false), (.bool false), (.pointer (some ⟨gx, 2, none⟩)), (.func (.func g) #[] lb), (.pointer (some ⟨gp, 1, none⟩)), (.string vl), (.bool true), (.bool false), (.bool false), (.bool false), (.bool false), (.int .i64 (i : Int)), (.bool true), (.bool true), (.pointer (some ⟨gp, 0, none⟩)), (.string nm), (.pointer (some ⟨g1, 2, none⟩)), (.slice (some ad) l0_2.length c0_2), (.int .i64 (i : Int)), (.int .i64 ((i : Int) - 1)), (.pointer (some (ad.add ((i - 1) * 2)))), (.pointer (some (ad.add ((i - 1) * 2)))), (.string pn), (.bool false), (.bool false), (.bool false)] : List Value)) W) : (Code.region id (opsOf Tryz.f11 17) true).wp Tryz.prog Q a0 w := by
  have hu24 := Tryz.underlying24
  have hu31 := Tryz.underlying31
  have hu68 := Tryz.underlying68
  have hu22 := Tryz.underlying22
  refine region_exp (N := n17) (D := d17) (E := ([(.pointer (some ⟨gp, 0, none⟩)), (.string nm), (.bool true), (.bool true), (.bool true), (.bool false), (.bool false), (.pointer (some ⟨gx, 2, none⟩)), (.func (.func g) #[] lb), (.pointer (some ⟨gp, 1, none⟩)), (.string vl), (.bool true), (.bool false), (.bool false), (.bool false), (.bool false), (.int .i64 (i : Int)), (.bool true), (.bool true), (.pointer (some ⟨gp, 0, none⟩)), (.string nm), (.pointer (some ⟨g1, 2, none⟩)), (.slice (some ad) l0_2.length c0_2), (.int .i64 (i : Int)), (.int .i64 ((i : Int) - 1)), (.pointer (some (ad.add ((i - 1) * 2)))), (.pointer (some (ad.add ((i - 1) * 2)))), (.string pn), (.bool false), (.bool false), (.bool false)] : List Value)) S t17 (by kernel_rfl) (by decide) rfl rfl (by decide) (by intro d hd; rw [hsz]; revert d; decide) hS ?_ hdone
  intro k hk a W hs hsa hj ho
  have hcase : k = 0 ∨ k = 1 ∨ k = 2 ∨ k = 3 ∨ k = 4 ∨ k = 5 ∨ k = 6 ∨ k = 7 ∨ k = 8 ∨ k = 9 ∨ k = 10 ∨ k = 11 ∨ k = 12 ∨ k = 13 ∨ k = 14 ∨ k = 15 ∨ k = 16 ∨ k = 17 ∨ k = 18 ∨ k = 19 ∨ k = 20 ∨ k = 21 ∨ k = 22 ∨ k = 23 ∨ k = 24 ∨ k = 25 ∨ k = 26 ∨ k = 27 ∨ k = 28 ∨ k = 29 ∨ k = 30 := by have : n17.length = 31 := rfl; omega
  rcases hcase with rfl | rfl | rfl | rfl | rfl | rfl | rfl | rfl | rfl | rfl | rfl | rfl | rfl | rfl | rfl | rfl | rfl | rfl | rfl | rfl | rfl | rfl | rfl | rfl | rfl | rfl | rfl | rfl | rfl | rfl | rfl
  · obtain ⟨pos, after, hop⟩ := op17_0
    have e12 : a.eval (.tmp 12) = (.pointer (some ⟨gp, 0, none⟩)) := eval_tmp ((ho 12 (by decide)).trans h12)
    refine op_yields hop (wanted_none rfl _) ?_ hs rfl
    clear hj ho hop hdone hS hcall
    have ec : ∀ v, a.eval (.const v) = v := fun _ => rfl
    clear hsa hk
    generalize a.eval = ev at *
    first | (go_simp; done) | (go_simp; rfl)
  · obtain ⟨pos, after, hop⟩ := op17_1
    have e75 : a.eval (.tmp 75) = (.pointer (some ⟨gp, 0, none⟩)) := eval_tmp (hj 0 (by decide))
    have c_k1 := k1 W hs
    refine op_yields hop (wanted_none rfl _) ?_ hs rfl
    clear hj ho hop hdone hS hcall
    have ec : ∀ v, a.eval (.const v) = v := fun _ => rfl
    clear hsa hk
    generalize a.eval = ev at *
    first | (go_simp; done) | (go_simp; rfl)
  · obtain ⟨pos, after, hop⟩ := op17_2
    have e76 : a.eval (.tmp 76) = (.string nm) := eval_tmp (hj 1 (by decide))
    have be3 : ¬ nm.toList = ([101, 110, 115, 117, 114, 101] : List UInt8) := by simpa using be2
    refine op_yields hop (wanted_none rfl _) ?_ hs rfl
    clear hj ho hop hdone hS hcall
    have ec : ∀ v, a.eval (.const v) = v := fun _ => rfl
    clear hsa hk
    generalize a.eval = ev at *
    first | (go_simp; done) | (go_simp; rfl) | (go_simp; exact be3)
  · obtain ⟨pos, after, hop⟩ := op17_3
    have e77 : a.eval (.tmp 77) = (.bool true) := eval_tmp (hj 2 (by decide))
    refine op_yields hop (wanted_none rfl _) ?_ hs rfl
    clear hj ho hop hdone hS hcall
    have ec : ∀ v, a.eval (.const v) = v := fun _ => rfl
    clear hsa hk
    generalize a.eval = ev at *
    first | (go_simp; done) | (go_simp; rfl)
  · obtain ⟨pos, after, hop⟩ := op17_4
    have e14 : a.eval (.tmp 14) = (.bool true) := eval_tmp ((ho 14 (by decide)).trans h14)
    refine op_yields hop ((wanted_some rfl dst17_3 (hj 3 (by decide))).trans rfl) ?_ hs rfl
    clear hj ho hop hdone hS hcall
    have ec : ∀ v, a.eval (.const v) = v := fun _ => rfl
    clear hsa hk
    generalize a.eval = ev at *
    first | (go_simp; done) | (go_simp; rfl)
  · obtain ⟨pos, after, hop⟩ := op17_5
    have e79 : a.eval (.tmp 79) = (.bool true) := eval_tmp (hj 4 (by decide))
    refine op_yields hop ((wanted_some rfl dst17_3 (hj 3 (by decide))).trans rfl) ?_ hs rfl
    clear hj ho hop hdone hS hcall
    have ec : ∀ v, a.eval (.const v) = v := fun _ => rfl
    clear hsa hk
    generalize a.eval = ev at *
    first | (go_simp; done) | (go_simp; rfl)
  · obtain ⟨pos, after, hop⟩ := op17_6
    have e80 : a.eval (.tmp 80) = (.bool false) := eval_tmp (hj 5 (by decide))
    refine op_yields hop ((wanted_some rfl dst17_3 (hj 3 (by decide))).trans rfl) ?_ hs rfl
    clear hj ho hop hdone hS hcall
    have ec : ∀ v, a.eval (.const v) = v := fun _ => rfl
    clear hsa hk
    generalize a.eval = ev at *
    first | (go_simp; done) | (go_simp; rfl)
  · obtain ⟨pos, after, hop⟩ := op17_7
    have e13 : a.eval (.tmp 13) = (.pointer (some ⟨gx, 0, none⟩)) := eval_tmp ((ho 13 (by decide)).trans h13)
    refine op_yields hop ((wanted_some rfl dst17_6 (hj 6 (by decide))).trans rfl) ?_ hs rfl
    clear hj ho hop hdone hS hcall
    have ec : ∀ v, a.eval (.const v) = v := fun _ => rfl
    clear hsa hk
    generalize a.eval = ev at *
    first | (go_simp; done) | (go_simp; rfl)
  · obtain ⟨pos, after, hop⟩ := op17_8
    have e82 : a.eval (.tmp 82) = (.pointer (some ⟨gx, 2, none⟩)) := eval_tmp (hj 7 (by decide))
    have c_k3 := k3 W hs
    refine op_yields hop ((wanted_some rfl dst17_6 (hj 6 (by decide))).trans rfl) ?_ hs rfl
    clear hj ho hop hdone hS hcall
    have ec : ∀ v, a.eval (.const v) = v := fun _ => rfl
    clear hsa hk
    generalize a.eval = ev at *
    first | (go_simp; done) | (go_simp; rfl)
  · obtain ⟨pos, after, hop⟩ := op17_9
    have e12 : a.eval (.tmp 12) = (.pointer (some ⟨gp, 0, none⟩)) := eval_tmp ((ho 12 (by decide)).trans h12)
    refine op_yields hop ((wanted_some rfl dst17_6 (hj 6 (by decide))).trans rfl) ?_ hs rfl
    clear hj ho hop hdone hS hcall
    have ec : ∀ v, a.eval (.const v) = v := fun _ => rfl
    clear hsa hk
    generalize a.eval = ev at *
    first | (go_simp; done) | (go_simp; rfl)
  · obtain ⟨pos, after, hop⟩ := op17_10
    have e84 : a.eval (.tmp 84) = (.pointer (some ⟨gp, 1, none⟩)) := eval_tmp (hj 9 (by decide))
    have c_k2 := k2 W hs
    refine op_yields hop ((wanted_some rfl dst17_6 (hj 6 (by decide))).trans rfl) ?_ hs rfl
    clear hj ho hop hdone hS hcall
    have ec : ∀ v, a.eval (.const v) = v := fun _ => rfl
    clear hsa hk
    generalize a.eval = ev at *
    first | (go_simp; done) | (go_simp; rfl)
  · obtain ⟨pos, after, hop⟩ := op17_11
    have e83 : a.eval (.tmp 83) = (.func (.func g) #[] lb) := eval_tmp (hj 8 (by decide))
    have e85 : a.eval (.tmp 85) = (.string vl) := eval_tmp (hj 10 (by decide))
    refine op_step hop ((wanted_some rfl dst17_6 (hj 6 (by decide))).trans rfl) (fun K hK => ?_)
    have hc := hcall W hs
    have ec : ∀ v, a.eval (.const v) = v := fun _ => rfl
    clear hj ho hop hdone hS hcall hsa hk
    unfold Oper.wp
    simp only [execOp]
    generalize a.eval = ev at *
    have HC0 := As.mk hc
    clear hc
    go_simp
    refine HC0.out.mono ?_
    rintro e w1 ⟨rfl, hs1⟩
    exact hK _ _ ⟨rfl, hs1⟩
  · obtain ⟨pos, after, hop⟩ := op17_12
    have e86 : a.eval (.tmp 86) = (.bool true) := eval_tmp (hj 11 (by decide))
    refine op_yields hop ((wanted_some rfl dst17_6 (hj 6 (by decide))).trans rfl) ?_ hs rfl
    clear hj ho hop hdone hS hcall
    have ec : ∀ v, a.eval (.const v) = v := fun _ => rfl
    clear hsa hk
    generalize a.eval = ev at *
    first | (go_simp; done) | (go_simp; rfl)
  · obtain ⟨pos, after, hop⟩ := op17_13
    have e81 : a.eval (.tmp 81) = (.bool false) := eval_tmp (hj 6 (by decide))
    have e87 : a.eval (.tmp 87) = (.bool false) := eval_tmp (hj 12 (by decide))
    refine op_yields hop ((wanted_some rfl dst17_3 (hj 3 (by decide))).trans rfl) ?_ hs rfl
    clear hj ho hop hdone hS hcall
    have ec : ∀ v, a.eval (.const v) = v := fun _ => rfl
    clear hsa hk
    generalize a.eval = ev at *
    first | (go_simp; done) | (go_simp; rfl)
  · obtain ⟨pos, after, hop⟩ := op17_14
    have e78 : a.eval (.tmp 78) = (.bool true) := eval_tmp (hj 3 (by decide))
    have e88 : a.eval (.tmp 88) = (.bool false) := eval_tmp (hj 13 (by decide))
    refine op_yields hop (wanted_none rfl _) ?_ hs rfl
    clear hj ho hop hdone hS hcall
    have ec : ∀ v, a.eval (.const v) = v := fun _ => rfl
    clear hsa hk
    generalize a.eval = ev at *
    first | (go_simp; done) | (go_simp; rfl)
  · obtain ⟨pos, after, hop⟩ := op17_15
    have e89 : a.eval (.tmp 89) = (.bool false) := eval_tmp (hj 14 (by decide))
    refine op_yields hop (wanted_none rfl _) ?_ hs rfl
    clear hj ho hop hdone hS hcall
    have ec : ∀ v, a.eval (.const v) = v := fun _ => rfl
    clear hsa hk
    generalize a.eval = ev at *
    first | (go_simp; done) | (go_simp; rfl)
  · obtain ⟨pos, after, hop⟩ := op17_16
    have e11 : a.eval (.tmp 11) = (.int .i64 (i : Int)) := eval_tmp ((ho 11 (by decide)).trans h11)
    refine op_yields hop ((wanted_some rfl dst17_15 (hj 15 (by decide))).trans rfl) ?_ hs rfl
    clear hj ho hop hdone hS hcall
    have ec : ∀ v, a.eval (.const v) = v := fun _ => rfl
    clear hsa hk
    generalize a.eval = ev at *
    first | (go_simp; done) | (go_simp; rfl)
  · obtain ⟨pos, after, hop⟩ := op17_17
    have e91 : a.eval (.tmp 91) = (.int .i64 (i : Int)) := eval_tmp (hj 16 (by decide))
    have hz3 : 0 < i := by simpa using hz
    refine op_yields hop ((wanted_some rfl dst17_15 (hj 15 (by decide))).trans rfl) ?_ hs rfl
    clear hj ho hop hdone hS hcall
    have ec : ∀ v, a.eval (.const v) = v := fun _ => rfl
    clear hsa hk
    generalize a.eval = ev at *
    first | (go_simp; done) | (go_simp; rfl) | (go_simp; exact hz3)
  · obtain ⟨pos, after, hop⟩ := op17_18
    have e92 : a.eval (.tmp 92) = (.bool true) := eval_tmp (hj 17 (by decide))
    refine op_yields hop ((wanted_some rfl dst17_15 (hj 15 (by decide))).trans rfl) ?_ hs rfl
    clear hj ho hop hdone hS hcall
    have ec : ∀ v, a.eval (.const v) = v := fun _ => rfl
    clear hsa hk
    generalize a.eval = ev at *
    first | (go_simp; done) | (go_simp; rfl)
  · obtain ⟨pos, after, hop⟩ := op17_19
    have e12 : a.eval (.tmp 12) = (.pointer (some ⟨gp, 0, none⟩)) := eval_tmp ((ho 12 (by decide)).trans h12)
    refine op_yields hop ((wanted_some rfl dst17_18 (hj 18 (by decide))).trans rfl) ?_ hs rfl
    clear hj ho hop hdone hS hcall
    have ec : ∀ v, a.eval (.const v) = v := fun _ => rfl
    clear hsa hk
    generalize a.eval = ev at *
    first | (go_simp; done) | (go_simp; rfl)
  · obtain ⟨pos, after, hop⟩ := op17_20
    have e94 : a.eval (.tmp 94) = (.pointer (some ⟨gp, 0, none⟩)) := eval_tmp (hj 19 (by decide))
    have c_k1 := k1 W hs
    refine op_yields hop ((wanted_some rfl dst17_18 (hj 18 (by decide))).trans rfl) ?_ hs rfl
    clear hj ho hop hdone hS hcall
    have ec : ∀ v, a.eval (.const v) = v := fun _ => rfl
    clear hsa hk
    generalize a.eval = ev at *
    first | (go_simp; done) | (go_simp; rfl)
  · obtain ⟨pos, after, hop⟩ := op17_21
    have e1 : a.eval (.tmp 1) = (.pointer (some ⟨g1, 0, none⟩)) := eval_tmp ((ho 1 (by decide)).trans h1)
    refine op_yields hop ((wanted_some rfl dst17_18 (hj 18 (by decide))).trans rfl) ?_ hs rfl
    clear hj ho hop hdone hS hcall
    have ec : ∀ v, a.eval (.const v) = v := fun _ => rfl
    clear hsa hk
    generalize a.eval = ev at *
    first | (go_simp; done) | (go_simp; rfl)
  · obtain ⟨pos, after, hop⟩ := op17_22
    have e96 : a.eval (.tmp 96) = (.pointer (some ⟨g1, 2, none⟩)) := eval_tmp (hj 21 (by decide))
    have c_k4 := k4 W hs
    refine op_yields hop ((wanted_some rfl dst17_18 (hj 18 (by decide))).trans rfl) ?_ hs rfl
    clear hj ho hop hdone hS hcall
    have ec : ∀ v, a.eval (.const v) = v := fun _ => rfl
    clear hsa hk
    generalize a.eval = ev at *
    first | (go_simp; done) | (go_simp; rfl)
  · obtain ⟨pos, after, hop⟩ := op17_23
    have e11 : a.eval (.tmp 11) = (.int .i64 (i : Int)) := eval_tmp ((ho 11 (by decide)).trans h11)
    refine op_yields hop ((wanted_some rfl dst17_18 (hj 18 (by decide))).trans rfl) ?_ hs rfl
    clear hj ho hop hdone hS hcall
    have ec : ∀ v, a.eval (.const v) = v := fun _ => rfl
    clear hsa hk
    generalize a.eval = ev at *
    first | (go_simp; done) | (go_simp; rfl)
  · obtain ⟨pos, after, hop⟩ := op17_24
    have e98 : a.eval (.tmp 98) = (.int .i64 (i : Int)) := eval_tmp (hj 23 (by decide))
    refine op_yields hop ((wanted_some rfl dst17_18 (hj 18 (by decide))).trans rfl) ?_ hs rfl
    clear hj ho hop hdone hS hcall
    have ec : ∀ v, a.eval (.const v) = v := fun _ => rfl
    clear hsa hk
    generalize a.eval = ev at *
    first | (go_simp; done) | (go_simp; rfl)
  · obtain ⟨pos, after, hop⟩ := op17_25
    have e97 : a.eval (.tmp 97) = (.slice (some ad) l0_2.length c0_2) := eval_tmp (hj 22 (by decide))
    have e99 : a.eval (.tmp 99) = (.int .i64 ((i : Int) - 1)) := eval_tmp (hj 24 (by decide))
    have hv2 : ¬ ((i : Int) < 1) := by omega
    have hv3 : ¬ (l0_2.length : Int) ≤ (i : Int) - 1 := by omega
    refine op_yields hop ((wanted_some rfl dst17_18 (hj 18 (by decide))).trans rfl) ?_ hs rfl
    clear hj ho hop hdone hS hcall
    have ec : ∀ v, a.eval (.const v) = v := fun _ => rfl
    clear hsa hk
    generalize a.eval = ev at *
    first | (go_simp; done) | (go_simp; rfl)
  · obtain ⟨pos, after, hop⟩ := op17_26
    have e100 : a.eval (.tmp 100) = (.pointer (some (ad.add ((i - 1) * 2)))) := eval_tmp (hj 25 (by decide))
    refine op_yields hop ((wanted_some rfl dst17_18 (hj 18 (by decide))).trans rfl) ?_ hs rfl
    clear hj ho hop hdone hS hcall
    have ec : ∀ v, a.eval (.const v) = v := fun _ => rfl
    clear hsa hk
    generalize a.eval = ev at *
    first | (go_simp; done) | (go_simp; rfl)
  · obtain ⟨pos, after, hop⟩ := op17_27
    have e101 : a.eval (.tmp 101) = (.pointer (some (ad.add ((i - 1) * 2)))) := eval_tmp (hj 26 (by decide))
    have c_k5 := k5 W hs
    refine op_yields hop ((wanted_some rfl dst17_18 (hj 18 (by decide))).trans rfl) ?_ hs rfl
    clear hj ho hop hdone hS hcall
    have ec : ∀ v, a.eval (.const v) = v := fun _ => rfl
    clear hsa hk
    generalize a.eval = ev at *
    first | (go_simp; done) | (go_simp; rfl)
  · obtain ⟨pos, after, hop⟩ := op17_28
    have e95 : a.eval (.tmp 95) = (.string nm) := eval_tmp (hj 20 (by decide))
    have e102 : a.eval (.tmp 102) = (.string pn) := eval_tmp (hj 27 (by decide))
    have hle3 := hle
    simp at hle3
    refine op_yields hop ((wanted_some rfl dst17_18 (hj 18 (by decide))).trans rfl) ?_ hs rfl
    clear hj ho hop hdone hS hcall
    have ec : ∀ v, a.eval (.const v) = v := fun _ => rfl
    clear hsa hk
    generalize a.eval = ev at *
    first | (go_simp; done) | (go_simp; rfl) | (go_simp; exact hle3)
  · obtain ⟨pos, after, hop⟩ := op17_29
    have e93 : a.eval (.tmp 93) = (.bool true) := eval_tmp (hj 18 (by decide))
    have e103 : a.eval (.tmp 103) = (.bool false) := eval_tmp (hj 28 (by decide))
    refine op_yields hop ((wanted_some rfl dst17_15 (hj 15 (by decide))).trans rfl) ?_ hs rfl
    clear hj ho hop hdone hS hcall
    have ec : ∀ v, a.eval (.const v) = v := fun _ => rfl
    clear hsa hk
    generalize a.eval = ev at *
    first | (go_simp; done) | (go_simp; rfl)
  · obtain ⟨pos, after, hop⟩ := op17_30
    have e90 : a.eval (.tmp 90) = (.bool false) := eval_tmp (hj 15 (by decide))
    have e104 : a.eval (.tmp 104) = (.bool false) := eval_tmp (hj 29 (by decide))
    refine op_yields hop (wanted_none rfl _) ?_ hs rfl
    clear hj ho hop hdone hS hcall
    have ec : ∀ v, a.eval (.const v) = v := fun _ => rfl
    clear hsa hk
    generalize a.eval = ev at *
    first | (go_simp; done) | (go_simp; rfl)
end Go.Proofs.YtkgafkoopefghaaGreatDoor.PA
end
