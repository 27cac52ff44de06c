/- A part of this law; its conditions stand in the last text. -/
import Derived.Test.YtkgafkoopefghaaGreatDoorCc20
import Derived.Test.YtkgafkoopefghaaGreatDoorCc26
import Derived.Laws.Cover1
section
set_option linter.unusedVariables false
set_option linter.unusedSimpArgs false
namespace Go.Proofs.YtkgafkoopefghaaGreatDoor.PA
open Go.RowKit Go.Maps Go.WideMaps Go.Proofs.YtkgafkoopefghaaGreatDoor.Hk Go.Proofs.YtkgafkoopefghaaGreatDoorW.PrintWords Go.Proofs.YtkgafkoopefghaaGreatDoorW.PrintLast
theorem wanted_undef {ops : Array Oper} {o : Oper} {a : Act} {j : Nat} {want : Bool} {d : Tmp} (h : o.guard = some (j, want)) (hj : (ops[j]?).bind (·.dst) = some d) (hv : a.tmps[d]? = some undef) : Region.wanted o (yielded ops a.tmps) = false := by
  unfold Region.wanted yielded
  rw [h]
  simp only [hj, Option.bind_some, hv]
  rfl
theorem op17_0 : ∃ pos after, (opsOf Tryz.f11 17)[0]? = some ⟨some 75, Op.fieldAddr 31 (Operand.tmp 12) 0, 0, pos, after, none⟩ := ⟨_, _, rfl⟩
theorem op17_1 : ∃ pos after, (opsOf Tryz.f11 17)[1]? = some ⟨some 76, Op.load 9 (Operand.tmp 75), 9, pos, after, none⟩ := ⟨_, _, rfl⟩
theorem op17_2 : ∃ pos after, (opsOf Tryz.f11 17)[2]? = some ⟨some 77, Op.binOp BinOp.neq 9 (Operand.tmp 76) (Operand.const (Value.string { data := #[101, 110, 115, 117, 114, 101] })) 9, 4, pos, after, none⟩ := ⟨_, _, rfl⟩
theorem op17_3 : ∃ pos after, (opsOf Tryz.f11 17)[3]? = some ⟨some 78, Op.move (Operand.tmp 77), 4, pos, after, none⟩ := ⟨_, _, rfl⟩
theorem dst17_3 : ((opsOf Tryz.f11 17)[3]?).bind (·.dst) = some 78 := by kernel_rfl
theorem op17_4 : ∃ pos after, (opsOf Tryz.f11 17)[4]? = some ⟨some 79, Op.move (Operand.tmp 14), 4, pos, after, some (3, true)⟩ := ⟨_, _, rfl⟩
theorem op17_5 : ∃ pos after, (opsOf Tryz.f11 17)[5]? = some ⟨some 80, Op.unOp UnOp.not 4 (Operand.tmp 79), 4, pos, after, some (3, true)⟩ := ⟨_, _, rfl⟩
theorem op17_6 : ∃ pos after, (opsOf Tryz.f11 17)[6]? = some ⟨some 81, Op.move (Operand.tmp 80), 4, pos, after, some (3, true)⟩ := ⟨_, _, rfl⟩
theorem dst17_6 : ((opsOf Tryz.f11 17)[6]?).bind (·.dst) = some 81 := by kernel_rfl
theorem op17_7 : ∃ pos after, (opsOf Tryz.f11 17)[7]? = some ⟨some 82, Op.fieldAddr 68 (Operand.tmp 13) 2, 0, pos, after, some (6, false)⟩ := ⟨_, _, rfl⟩
theorem op17_8 : ∃ pos after, (opsOf Tryz.f11 17)[8]? = some ⟨some 83, Op.load 66 (Operand.tmp 82), 66, pos, after, some (6, false)⟩ := ⟨_, _, rfl⟩
theorem op17_9 : ∃ pos after, (opsOf Tryz.f11 17)[9]? = some ⟨some 84, Op.fieldAddr 31 (Operand.tmp 12) 1, 0, pos, after, some (6, false)⟩ := ⟨_, _, rfl⟩
theorem op17_10 : ∃ pos after, (opsOf Tryz.f11 17)[10]? = some ⟨some 85, Op.load 9 (Operand.tmp 84), 9, pos, after, some (6, false)⟩ := ⟨_, _, rfl⟩
theorem op17_11 : ∃ pos after, (opsOf Tryz.f11 17)[11]? = some ⟨some 86, Op.call { callee := Callee.value (Operand.tmp 83), args := #[Operand.tmp 85], argTypes := #[9] }, 4, pos, after, some (6, false)⟩ := ⟨_, _, rfl⟩
theorem op17_12 : ∃ pos after, (opsOf Tryz.f11 17)[12]? = some ⟨some 87, Op.unOp UnOp.not 4 (Operand.tmp 86), 4, pos, after, some (6, false)⟩ := ⟨_, _, rfl⟩
theorem op17_13 : ∃ pos after, (opsOf Tryz.f11 17)[13]? = some ⟨some 88, Op.pick (Operand.tmp 81) (Operand.const (Value.bool true)) (Operand.tmp 87), 4, pos, after, some (3, true)⟩ := ⟨_, _, rfl⟩
theorem op17_14 : ∃ pos after, (opsOf Tryz.f11 17)[14]? = some ⟨some 89, Op.pick (Operand.tmp 78) (Operand.tmp 88) (Operand.const (Value.bool false)), 4, pos, after, none⟩ := ⟨_, _, rfl⟩
theorem op17_15 : ∃ pos after, (opsOf Tryz.f11 17)[15]? = some ⟨some 90, Op.move (Operand.tmp 89), 4, pos, after, none⟩ := ⟨_, _, rfl⟩
theorem dst17_15 : ((opsOf Tryz.f11 17)[15]?).bind (·.dst) = some 90 := by kernel_rfl
theorem op17_16 : ∃ pos after, (opsOf Tryz.f11 17)[16]? = some ⟨some 91, Op.move (Operand.tmp 11), 3, pos, after, some (15, false)⟩ := ⟨_, _, rfl⟩
theorem op17_17 : ∃ pos after, (opsOf Tryz.f11 17)[17]? = some ⟨some 92, Op.binOp BinOp.gtr 3 (Operand.tmp 91) (Operand.const (Value.int IntKind.i64 0)) 3, 4, pos, after, some (15, false)⟩ := ⟨_, _, rfl⟩
theorem op17_18 : ∃ pos after, (opsOf Tryz.f11 17)[18]? = some ⟨some 93, Op.move (Operand.tmp 92), 4, pos, after, some (15, false)⟩ := ⟨_, _, rfl⟩
theorem dst17_18 : ((opsOf Tryz.f11 17)[18]?).bind (·.dst) = some 93 := by kernel_rfl
theorem op17_19 : ∃ pos after, (opsOf Tryz.f11 17)[19]? = some ⟨some 94, Op.fieldAddr 31 (Operand.tmp 12) 0, 0, pos, after, some (18, true)⟩ := ⟨_, _, rfl⟩
theorem op17_20 : ∃ pos after, (opsOf Tryz.f11 17)[20]? = some ⟨some 95, Op.load 9 (Operand.tmp 94), 9, pos, after, some (18, true)⟩ := ⟨_, _, rfl⟩
theorem op17_21 : ∃ pos after, (opsOf Tryz.f11 17)[21]? = some ⟨some 96, Op.fieldAddr 24 (Operand.tmp 1) 2, 0, pos, after, some (18, true)⟩ := ⟨_, _, rfl⟩
theorem op17_22 : ∃ pos after, (opsOf Tryz.f11 17)[22]? = some ⟨some 97, Op.load 22 (Operand.tmp 96), 22, pos, after, some (18, true)⟩ := ⟨_, _, rfl⟩
theorem op17_23 : ∃ pos after, (opsOf Tryz.f11 17)[23]? = some ⟨some 98, Op.move (Operand.tmp 11), 3, pos, after, some (18, true)⟩ := ⟨_, _, rfl⟩
theorem op17_24 : ∃ pos after, (opsOf Tryz.f11 17)[24]? = some ⟨some 99, Op.binOp BinOp.sub 3 (Operand.tmp 98) (Operand.const (Value.int IntKind.i64 1)) 3, 3, pos, after, some (18, true)⟩ := ⟨_, _, rfl⟩
theorem op17_25 : ∃ pos after, (opsOf Tryz.f11 17)[25]? = some ⟨some 100, Op.indexAddr 22 (Operand.tmp 97) (Operand.tmp 99), 0, pos, after, some (18, true)⟩ := ⟨_, _, rfl⟩
theorem op17_26 : ∃ pos after, (opsOf Tryz.f11 17)[26]? = some ⟨some 101, Op.fieldAddr 31 (Operand.tmp 100) 0, 0, pos, after, some (18, true)⟩ := ⟨_, _, rfl⟩
theorem op17_27 : ∃ pos after, (opsOf Tryz.f11 17)[27]? = some ⟨some 102, Op.load 9 (Operand.tmp 101), 9, pos, after, some (18, true)⟩ := ⟨_, _, rfl⟩
theorem op17_28 : ∃ pos after, (opsOf Tryz.f11 17)[28]? = some ⟨some 103, Op.binOp BinOp.leq 9 (Operand.tmp 95) (Operand.tmp 102) 9, 4, pos, after, some (18, true)⟩ := ⟨_, _, rfl⟩
theorem op17_29 : ∃ pos after, (opsOf Tryz.f11 17)[29]? = some ⟨some 104, Op.pick (Operand.tmp 93) (Operand.tmp 103) (Operand.const (Value.bool false)), 4, pos, after, some (15, false)⟩ := ⟨_, _, rfl⟩
theorem op17_30 : ∃ pos after, (opsOf Tryz.f11 17)[30]? = some ⟨some 105, Op.pick (Operand.tmp 90) (Operand.const (Value.bool true)) (Operand.tmp 104), 4, pos, after, none⟩ := ⟨_, _, rfl⟩
def n17 : List (List Nat) := [[], [0], [1], [2], [3], [4, 3], [5, 3, 3], [6], [7, 6], [6], [9, 6], [8, 10, 6, 6], [11, 6], [6, 12, 3], [3, 13], [14, 11], [15], [16, 15], [17, 15, 15], [18], [19, 18], [18], [21, 18], [18], [23, 18], [22, 24, 18], [25, 18], [26, 18], [20, 27, 18], [18, 28, 15], [15, 29]]
def d17 : List Tmp := [75, 76, 77, 78, 79, 80, 81, 82, 83, 84, 85, 86, 87, 88, 89, 90, 91, 92, 93, 94, 95, 96, 97, 98, 99, 100, 101, 102, 103, 104, 105]
theorem t17 : (rtab .any (opsOf Tryz.f11 17)).2.map (·.1) = n17 := by kernel_rfl
end Go.Proofs.YtkgafkoopefghaaGreatDoor.PA
end
section
set_option linter.unusedVariables false
set_option linter.unusedSimpArgs false
namespace Go.Proofs.YtkgafkoopefghaaGreatDoor.PA
open Go.RowKit Go.Maps Go.WideMaps Go.Proofs.YtkgafkoopefghaaGreatDoor.Hk Go.Proofs.YtkgafkoopefghaaGreatDoorW.PrintWords Go.Proofs.YtkgafkoopefghaaGreatDoorW.PrintLast
set_option maxRecDepth 100000 in
set_option maxHeartbeats 4000000 in
theorem r17_A0 {Q : Exit → Act → World → Prop} {id : Nat} {a0 : Act} {w : World} (S : World → Prop) (gp gx g1 : Nat) (i : Nat) (nm vl : ByteArray) (h11 : a0.tmps[11]? = some (.int .i64 (i : Int))) (h12 : a0.tmps[12]? = some (.pointer (some ⟨gp, 0, none⟩))) (h13 : a0.tmps[13]? = some (.pointer (some ⟨gx, 0, none⟩))) (h14 : a0.tmps[14]? = some (.bool false)) (h1 : a0.tmps[1]? = some (.pointer (some ⟨g1, 0, none⟩))) (hsz : a0.tmps.size = 162) (hS : S w.drew) (k1 : ∀ W, S W → W.cell? ⟨gp, 0, none⟩ = some (.string nm)) (be2 : (nm.toList != ([101, 110, 115, 117, 114, 101] : List UInt8)) = false) (hz : decide ((0 : Int) < (i : Int)) = false)
    (hdone : ∀ W, S W → Q .normal (actE a0 (List.replicate 31 true) d17 ([(.pointer (some ⟨gp, 0, none⟩)), (.string nm), (.bool false), (.bool false), undef, undef, undef, undef, undef, undef, undef, undef, undef, undef, (.bool false), (.bool false), (.int .i64 (i : Int)), (.bool false), (.bool false), undef, undef, undef, undef, undef, undef, undef, undef, undef, undef, (.bool false), (.bool false)] : List Value)) W) : (Code.region id (opsOf Tryz.f11 17) true).wp Tryz.prog Q a0 w := by
  have hu24 := Tryz.underlying24
  have hu31 := Tryz.underlying31
  have hu68 := Tryz.underlying68
  have hu22 := Tryz.underlying22
  refine region_exp (N := n17) (D := d17) (E := ([(.pointer (some ⟨gp, 0, none⟩)), (.string nm), (.bool false), (.bool false), undef, undef, undef, undef, undef, undef, undef, undef, undef, undef, (.bool false), (.bool false), (.int .i64 (i : Int)), (.bool false), (.bool false), undef, undef, undef, undef, undef, undef, undef, undef, undef, undef, (.bool false), (.bool false)] : List Value)) S t17 (by kernel_rfl) (by decide) rfl rfl (by decide) (by intro d hd; rw [hsz]; revert d; decide) hS ?_ hdone
  intro k hk a W hs hsa hj ho
  have hcase : k = 0 ∨ k = 1 ∨ k = 2 ∨ k = 3 ∨ k = 4 ∨ k = 5 ∨ k = 6 ∨ k = 7 ∨ k = 8 ∨ k = 9 ∨ k = 10 ∨ k = 11 ∨ k = 12 ∨ k = 13 ∨ k = 14 ∨ k = 15 ∨ k = 16 ∨ k = 17 ∨ k = 18 ∨ k = 19 ∨ k = 20 ∨ k = 21 ∨ k = 22 ∨ k = 23 ∨ k = 24 ∨ k = 25 ∨ k = 26 ∨ k = 27 ∨ k = 28 ∨ k = 29 ∨ k = 30 := by have : n17.length = 31 := rfl; omega
  rcases hcase with rfl | rfl | rfl | rfl | rfl | rfl | rfl | rfl | rfl | rfl | rfl | rfl | rfl | rfl | rfl | rfl | rfl | rfl | rfl | rfl | rfl | rfl | rfl | rfl | rfl | rfl | rfl | rfl | rfl | rfl | rfl
  · obtain ⟨pos, after, hop⟩ := op17_0
    have e12 : a.eval (.tmp 12) = (.pointer (some ⟨gp, 0, none⟩)) := eval_tmp ((ho 12 (by decide)).trans h12)
    refine op_yields hop (wanted_none rfl _) ?_ hs rfl
    clear hj ho hop hdone hS
    have ec : ∀ v, a.eval (.const v) = v := fun _ => rfl
    clear hsa hk
    generalize a.eval = ev at *
    first | (go_simp; done) | (go_simp; rfl)
  · obtain ⟨pos, after, hop⟩ := op17_1
    have e75 : a.eval (.tmp 75) = (.pointer (some ⟨gp, 0, none⟩)) := eval_tmp (hj 0 (by decide))
    have c_k1 := k1 W hs
    refine op_yields hop (wanted_none rfl _) ?_ hs rfl
    clear hj ho hop hdone hS
    have ec : ∀ v, a.eval (.const v) = v := fun _ => rfl
    clear hsa hk
    generalize a.eval = ev at *
    first | (go_simp; done) | (go_simp; rfl)
  · obtain ⟨pos, after, hop⟩ := op17_2
    have e76 : a.eval (.tmp 76) = (.string nm) := eval_tmp (hj 1 (by decide))
    have be3 : nm.toList = ([101, 110, 115, 117, 114, 101] : List UInt8) := by simpa using be2
    refine op_yields hop (wanted_none rfl _) ?_ hs rfl
    clear hj ho hop hdone hS
    have ec : ∀ v, a.eval (.const v) = v := fun _ => rfl
    clear hsa hk
    generalize a.eval = ev at *
    first | (go_simp; done) | (go_simp; rfl) | (go_simp; exact be3)
  · obtain ⟨pos, after, hop⟩ := op17_3
    have e77 : a.eval (.tmp 77) = (.bool false) := eval_tmp (hj 2 (by decide))
    refine op_yields hop (wanted_none rfl _) ?_ hs rfl
    clear hj ho hop hdone hS
    have ec : ∀ v, a.eval (.const v) = v := fun _ => rfl
    clear hsa hk
    generalize a.eval = ev at *
    first | (go_simp; done) | (go_simp; rfl)
  · obtain ⟨pos, after, hop⟩ := op17_4
    exact op_struck hop ((wanted_some rfl dst17_3 (hj 3 (by decide))).trans rfl) hs rfl
  · obtain ⟨pos, after, hop⟩ := op17_5
    exact op_struck hop ((wanted_some rfl dst17_3 (hj 3 (by decide))).trans rfl) hs rfl
  · obtain ⟨pos, after, hop⟩ := op17_6
    exact op_struck hop ((wanted_some rfl dst17_3 (hj 3 (by decide))).trans rfl) hs rfl
  · obtain ⟨pos, after, hop⟩ := op17_7
    exact op_struck hop (wanted_undef rfl dst17_6 (hj 6 (by decide))) hs rfl
  · obtain ⟨pos, after, hop⟩ := op17_8
    exact op_struck hop (wanted_undef rfl dst17_6 (hj 6 (by decide))) hs rfl
  · obtain ⟨pos, after, hop⟩ := op17_9
    exact op_struck hop (wanted_undef rfl dst17_6 (hj 6 (by decide))) hs rfl
  · obtain ⟨pos, after, hop⟩ := op17_10
    exact op_struck hop (wanted_undef rfl dst17_6 (hj 6 (by decide))) hs rfl
  · obtain ⟨pos, after, hop⟩ := op17_11
    exact op_struck hop (wanted_undef rfl dst17_6 (hj 6 (by decide))) hs rfl
  · obtain ⟨pos, after, hop⟩ := op17_12
    exact op_struck hop (wanted_undef rfl dst17_6 (hj 6 (by decide))) hs rfl
  · obtain ⟨pos, after, hop⟩ := op17_13
    exact op_struck hop ((wanted_some rfl dst17_3 (hj 3 (by decide))).trans rfl) hs rfl
  · obtain ⟨pos, after, hop⟩ := op17_14
    have e78 : a.eval (.tmp 78) = (.bool false) := eval_tmp (hj 3 (by decide))
    have e88 : a.eval (.tmp 88) = undef := eval_tmp (hj 13 (by decide))
    refine op_yields hop (wanted_none rfl _) ?_ hs rfl
    clear hj ho hop hdone hS
    have ec : ∀ v, a.eval (.const v) = v := fun _ => rfl
    clear hsa hk
    generalize a.eval = ev at *
    first | (go_simp; done) | (go_simp; rfl)
  · obtain ⟨pos, after, hop⟩ := op17_15
    have e89 : a.eval (.tmp 89) = (.bool false) := eval_tmp (hj 14 (by decide))
    refine op_yields hop (wanted_none rfl _) ?_ hs rfl
    clear hj ho hop hdone hS
    have ec : ∀ v, a.eval (.const v) = v := fun _ => rfl
    clear hsa hk
    generalize a.eval = ev at *
    first | (go_simp; done) | (go_simp; rfl)
  · obtain ⟨pos, after, hop⟩ := op17_16
    have e11 : a.eval (.tmp 11) = (.int .i64 (i : Int)) := eval_tmp ((ho 11 (by decide)).trans h11)
    refine op_yields hop ((wanted_some rfl dst17_15 (hj 15 (by decide))).trans rfl) ?_ hs rfl
    clear hj ho hop hdone hS
    have ec : ∀ v, a.eval (.const v) = v := fun _ => rfl
    clear hsa hk
    generalize a.eval = ev at *
    first | (go_simp; done) | (go_simp; rfl)
  · obtain ⟨pos, after, hop⟩ := op17_17
    have e91 : a.eval (.tmp 91) = (.int .i64 (i : Int)) := eval_tmp (hj 16 (by decide))
    have hz3 : i = 0 := by simpa using hz
    refine op_yields hop ((wanted_some rfl dst17_15 (hj 15 (by decide))).trans rfl) ?_ hs rfl
    clear hj ho hop hdone hS
    have ec : ∀ v, a.eval (.const v) = v := fun _ => rfl
    clear hsa hk
    generalize a.eval = ev at *
    first | (go_simp; done) | (go_simp; rfl) | (go_simp; exact hz3)
  · obtain ⟨pos, after, hop⟩ := op17_18
    have e92 : a.eval (.tmp 92) = (.bool false) := eval_tmp (hj 17 (by decide))
    refine op_yields hop ((wanted_some rfl dst17_15 (hj 15 (by decide))).trans rfl) ?_ hs rfl
    clear hj ho hop hdone hS
    have ec : ∀ v, a.eval (.const v) = v := fun _ => rfl
    clear hsa hk
    generalize a.eval = ev at *
    first | (go_simp; done) | (go_simp; rfl)
  · obtain ⟨pos, after, hop⟩ := op17_19
    exact op_struck hop ((wanted_some rfl dst17_18 (hj 18 (by decide))).trans rfl) hs rfl
  · obtain ⟨pos, after, hop⟩ := op17_20
    exact op_struck hop ((wanted_some rfl dst17_18 (hj 18 (by decide))).trans rfl) hs rfl
  · obtain ⟨pos, after, hop⟩ := op17_21
    exact op_struck hop ((wanted_some rfl dst17_18 (hj 18 (by decide))).trans rfl) hs rfl
  · obtain ⟨pos, after, hop⟩ := op17_22
    exact op_struck hop ((wanted_some rfl dst17_18 (hj 18 (by decide))).trans rfl) hs rfl
  · obtain ⟨pos, after, hop⟩ := op17_23
    exact op_struck hop ((wanted_some rfl dst17_18 (hj 18 (by decide))).trans rfl) hs rfl
  · obtain ⟨pos, after, hop⟩ := op17_24
    exact op_struck hop ((wanted_some rfl dst17_18 (hj 18 (by decide))).trans rfl) hs rfl
  · obtain ⟨pos, after, hop⟩ := op17_25
    exact op_struck hop ((wanted_some rfl dst17_18 (hj 18 (by decide))).trans rfl) hs rfl
  · obtain ⟨pos, after, hop⟩ := op17_26
    exact op_struck hop ((wanted_some rfl dst17_18 (hj 18 (by decide))).trans rfl) hs rfl
  · obtain ⟨pos, after, hop⟩ := op17_27
    exact op_struck hop ((wanted_some rfl dst17_18 (hj 18 (by decide))).trans rfl) hs rfl
  · obtain ⟨pos, after, hop⟩ := op17_28
    exact op_struck hop ((wanted_some rfl dst17_18 (hj 18 (by decide))).trans rfl) hs rfl
  · obtain ⟨pos, after, hop⟩ := op17_29
    have e93 : a.eval (.tmp 93) = (.bool false) := eval_tmp (hj 18 (by decide))
    have e103 : a.eval (.tmp 103) = undef := eval_tmp (hj 28 (by decide))
    refine op_yields hop ((wanted_some rfl dst17_15 (hj 15 (by decide))).trans rfl) ?_ hs rfl
    clear hj ho hop hdone hS
    have ec : ∀ v, a.eval (.const v) = v := fun _ => rfl
    clear hsa hk
    generalize a.eval = ev at *
    first | (go_simp; done) | (go_simp; rfl)
  · obtain ⟨pos, after, hop⟩ := op17_30
    have e90 : a.eval (.tmp 90) = (.bool false) := eval_tmp (hj 15 (by decide))
    have e104 : a.eval (.tmp 104) = (.bool false) := eval_tmp (hj 29 (by decide))
    refine op_yields hop (wanted_none rfl _) ?_ hs rfl
    clear hj ho hop hdone hS
    have ec : ∀ v, a.eval (.const v) = v := fun _ => rfl
    clear hsa hk
    generalize a.eval = ev at *
    first | (go_simp; done) | (go_simp; rfl)
set_option maxRecDepth 100000 in
set_option maxHeartbeats 4000000 in
theorem r17_Ale {Q : Exit → Act → World → Prop} {id : Nat} {a0 : Act} {w : World} (S : World → Prop) (gp gx g1 : Nat) (i : Nat) (nm vl : ByteArray) (h11 : a0.tmps[11]? = some (.int .i64 (i : Int))) (h12 : a0.tmps[12]? = some (.pointer (some ⟨gp, 0, none⟩))) (h13 : a0.tmps[13]? = some (.pointer (some ⟨gx, 0, none⟩))) (h14 : a0.tmps[14]? = some (.bool false)) (h1 : a0.tmps[1]? = some (.pointer (some ⟨g1, 0, none⟩))) (hsz : a0.tmps.size = 162) (hS : S w.drew) (k1 : ∀ W, S W → W.cell? ⟨gp, 0, none⟩ = some (.string nm)) (be2 : (nm.toList != ([101, 110, 115, 117, 114, 101] : List UInt8)) = false) (hz : decide ((0 : Int) < (i : Int)) = true) (l0_2 : List S31) (c0_2 : Nat) (ad : Addr) (pn : ByteArray) (hw1 : IntKind.i64.wrap ((i : Int) - 1) = (i : Int) - 1) (hv0 : (0 : Int) ≤ (i : Int) - 1) (hv1 : (i : Int) - 1 < (l0_2.length : Int)) (k4 : ∀ W, S W → W.cell? ⟨g1, 2, none⟩ = some (.slice (some ad) l0_2.length c0_2)) (k5 : ∀ W, S W → W.cell? (ad.add ((i - 1) * 2)) = some (.string pn)) (hle : (Op.bytesLess nm.toList pn.toList || nm.toList == pn.toList) = true)
    (hdone : ∀ W, S W → Q .normal (actE a0 (List.replicate 31 true) d17 ([(.pointer (some ⟨gp, 0, none⟩)), (.string nm), (.bool false), (.bool false), undef, undef, undef, undef, undef, undef, undef, undef, undef, undef, (.bool false), (.bool false), (.int .i64 (i : Int)), (.bool true), (.bool true), (.pointer (some ⟨gp, 0, none⟩)), (.string nm), (.pointer (some ⟨g1, 2, none⟩)), (.slice (some ad) l0_2.length c0_2), (.int .i64 (i : Int)), (.int .i64 ((i : Int) - 1)), (.pointer (some (ad.add ((i - 1) * 2)))), (.pointer (some (ad.add ((i - 1) * 2)))), (.string pn), (.bool true), (.bool true), (.bool true)] : List Value)) W) : (Code.region id (opsOf Tryz.f11 17) true).wp Tryz.prog Q a0 w := by
  have hu24 := Tryz.underlying24
  have hu31 := Tryz.underlying31
  have hu68 := Tryz.underlying68
  have hu22 := Tryz.underlying22
  refine region_exp (N := n17) (D := d17) (E := ([(.pointer (some ⟨gp, 0, none⟩)), (.string nm), (.bool false), (.bool false), undef, undef, undef, undef, undef, undef, undef, undef, undef, undef, (.bool false), (.bool false), (.int .i64 (i : Int)), (.bool true), (.bool true), (.pointer (some ⟨gp, 0, none⟩)), (.string nm), (.pointer (some ⟨g1, 2, none⟩)), (.slice (some ad) l0_2.length c0_2), (.int .i64 (i : Int)), (.int .i64 ((i : Int) - 1)), (.pointer (some (ad.add ((i - 1) * 2)))), (.pointer (some (ad.add ((i - 1) * 2)))), (.string pn), (.bool true), (.bool true), (.bool true)] : List Value)) S t17 (by kernel_rfl) (by decide) rfl rfl (by decide) (by intro d hd; rw [hsz]; revert d; decide) hS ?_ hdone
  intro k hk a W hs hsa hj ho
  have hcase : k = 0 ∨ k = 1 ∨ k = 2 ∨ k = 3 ∨ k = 4 ∨ k = 5 ∨ k = 6 ∨ k = 7 ∨ k = 8 ∨ k = 9 ∨ k = 10 ∨ k = 11 ∨ k = 12 ∨ k = 13 ∨ k = 14 ∨ k = 15 ∨ k = 16 ∨ k = 17 ∨ k = 18 ∨ k = 19 ∨ k = 20 ∨ k = 21 ∨ k = 22 ∨ k = 23 ∨ k = 24 ∨ k = 25 ∨ k = 26 ∨ k = 27 ∨ k = 28 ∨ k = 29 ∨ k = 30 := by have : n17.length = 31 := rfl; omega
  rcases hcase with rfl | rfl | rfl | rfl | rfl | rfl | rfl | rfl | rfl | rfl | rfl | rfl | rfl | rfl | rfl | rfl | rfl | rfl | rfl | rfl | rfl | rfl | rfl | rfl | rfl | rfl | rfl | rfl | rfl | rfl | rfl
  · obtain ⟨pos, after, hop⟩ := op17_0
    have e12 : a.eval (.tmp 12) = (.pointer (some ⟨gp, 0, none⟩)) := eval_tmp ((ho 12 (by decide)).trans h12)
    refine op_yields hop (wanted_none rfl _) ?_ hs rfl
    clear hj ho hop hdone hS
    have ec : ∀ v, a.eval (.const v) = v := fun _ => rfl
    clear hsa hk
    generalize a.eval = ev at *
    first | (go_simp; done) | (go_simp; rfl)
  · obtain ⟨pos, after, hop⟩ := op17_1
    have e75 : a.eval (.tmp 75) = (.pointer (some ⟨gp, 0, none⟩)) := eval_tmp (hj 0 (by decide))
    have c_k1 := k1 W hs
    refine op_yields hop (wanted_none rfl _) ?_ hs rfl
    clear hj ho hop hdone hS
    have ec : ∀ v, a.eval (.const v) = v := fun _ => rfl
    clear hsa hk
    generalize a.eval = ev at *
    first | (go_simp; done) | (go_simp; rfl)
  · obtain ⟨pos, after, hop⟩ := op17_2
    have e76 : a.eval (.tmp 76) = (.string nm) := eval_tmp (hj 1 (by decide))
    have be3 : nm.toList = ([101, 110, 115, 117, 114, 101] : List UInt8) := by simpa using be2
    refine op_yields hop (wanted_none rfl _) ?_ hs rfl
    clear hj ho hop hdone hS
    have ec : ∀ v, a.eval (.const v) = v := fun _ => rfl
    clear hsa hk
    generalize a.eval = ev at *
    first | (go_simp; done) | (go_simp; rfl) | (go_simp; exact be3)
  · obtain ⟨pos, after, hop⟩ := op17_3
    have e77 : a.eval (.tmp 77) = (.bool false) := eval_tmp (hj 2 (by decide))
    refine op_yields hop (wanted_none rfl _) ?_ hs rfl
    clear hj ho hop hdone hS
    have ec : ∀ v, a.eval (.const v) = v := fun _ => rfl
    clear hsa hk
    generalize a.eval = ev at *
    first | (go_simp; done) | (go_simp; rfl)
  · obtain ⟨pos, after, hop⟩ := op17_4
    exact op_struck hop ((wanted_some rfl dst17_3 (hj 3 (by decide))).trans rfl) hs rfl
  · obtain ⟨pos, after, hop⟩ := op17_5
    exact op_struck hop ((wanted_some rfl dst17_3 (hj 3 (by decide))).trans rfl) hs rfl
  · obtain ⟨pos, after, hop⟩ := op17_6
    exact op_struck hop ((wanted_some rfl dst17_3 (hj 3 (by decide))).trans rfl) hs rfl
  · obtain ⟨pos, after, hop⟩ := op17_7
    exact op_struck hop (wanted_undef rfl dst17_6 (hj 6 (by decide))) hs rfl
  · obtain ⟨pos, after, hop⟩ := op17_8
    exact op_struck hop (wanted_undef rfl dst17_6 (hj 6 (by decide))) hs rfl
  · obtain ⟨pos, after, hop⟩ := op17_9
    exact op_struck hop (wanted_undef rfl dst17_6 (hj 6 (by decide))) hs rfl
  · obtain ⟨pos, after, hop⟩ := op17_10
    exact op_struck hop (wanted_undef rfl dst17_6 (hj 6 (by decide))) hs rfl
  · obtain ⟨pos, after, hop⟩ := op17_11
    exact op_struck hop (wanted_undef rfl dst17_6 (hj 6 (by decide))) hs rfl
  · obtain ⟨pos, after, hop⟩ := op17_12
    exact op_struck hop (wanted_undef rfl dst17_6 (hj 6 (by decide))) hs rfl
  · obtain ⟨pos, after, hop⟩ := op17_13
    exact op_struck hop ((wanted_some rfl dst17_3 (hj 3 (by decide))).trans rfl) hs rfl
  · obtain ⟨pos, after, hop⟩ := op17_14
    have e78 : a.eval (.tmp 78) = (.bool false) := eval_tmp (hj 3 (by decide))
    have e88 : a.eval (.tmp 88) = undef := eval_tmp (hj 13 (by decide))
    refine op_yields hop (wanted_none rfl _) ?_ hs rfl
    clear hj ho hop hdone hS
    have ec : ∀ v, a.eval (.const v) = v := fun _ => rfl
    clear hsa hk
    generalize a.eval = ev at *
    first | (go_simp; done) | (go_simp; rfl)
  · obtain ⟨pos, after, hop⟩ := op17_15
    have e89 : a.eval (.tmp 89) = (.bool false) := eval_tmp (hj 14 (by decide))
    refine op_yields hop (wanted_none rfl _) ?_ hs rfl
    clear hj ho hop hdone hS
    have ec : ∀ v, a.eval (.const v) = v := fun _ => rfl
    clear hsa hk
    generalize a.eval = ev at *
    first | (go_simp; done) | (go_simp; rfl)
  · obtain ⟨pos, after, hop⟩ := op17_16
    have e11 : a.eval (.tmp 11) = (.int .i64 (i : Int)) := eval_tmp ((ho 11 (by decide)).trans h11)
    refine op_yields hop ((wanted_some rfl dst17_15 (hj 15 (by decide))).trans rfl) ?_ hs rfl
    clear hj ho hop hdone hS
    have ec : ∀ v, a.eval (.const v) = v := fun _ => rfl
    clear hsa hk
    generalize a.eval = ev at *
    first | (go_simp; done) | (go_simp; rfl)
  · obtain ⟨pos, after, hop⟩ := op17_17
    have e91 : a.eval (.tmp 91) = (.int .i64 (i : Int)) := eval_tmp (hj 16 (by decide))
    have hz3 : 0 < i := by simpa using hz
    refine op_yields hop ((wanted_some rfl dst17_15 (hj 15 (by decide))).trans rfl) ?_ hs rfl
    clear hj ho hop hdone hS
    have ec : ∀ v, a.eval (.const v) = v := fun _ => rfl
    clear hsa hk
    generalize a.eval = ev at *
    first | (go_simp; done) | (go_simp; rfl) | (go_simp; exact hz3)
  · obtain ⟨pos, after, hop⟩ := op17_18
    have e92 : a.eval (.tmp 92) = (.bool true) := eval_tmp (hj 17 (by decide))
    refine op_yields hop ((wanted_some rfl dst17_15 (hj 15 (by decide))).trans rfl) ?_ hs rfl
    clear hj ho hop hdone hS
    have ec : ∀ v, a.eval (.const v) = v := fun _ => rfl
    clear hsa hk
    generalize a.eval = ev at *
    first | (go_simp; done) | (go_simp; rfl)
  · obtain ⟨pos, after, hop⟩ := op17_19
    have e12 : a.eval (.tmp 12) = (.pointer (some ⟨gp, 0, none⟩)) := eval_tmp ((ho 12 (by decide)).trans h12)
    refine op_yields hop ((wanted_some rfl dst17_18 (hj 18 (by decide))).trans rfl) ?_ hs rfl
    clear hj ho hop hdone hS
    have ec : ∀ v, a.eval (.const v) = v := fun _ => rfl
    clear hsa hk
    generalize a.eval = ev at *
    first | (go_simp; done) | (go_simp; rfl)
  · obtain ⟨pos, after, hop⟩ := op17_20
    have e94 : a.eval (.tmp 94) = (.pointer (some ⟨gp, 0, none⟩)) := eval_tmp (hj 19 (by decide))
    have c_k1 := k1 W hs
    refine op_yields hop ((wanted_some rfl dst17_18 (hj 18 (by decide))).trans rfl) ?_ hs rfl
    clear hj ho hop hdone hS
    have ec : ∀ v, a.eval (.const v) = v := fun _ => rfl
    clear hsa hk
    generalize a.eval = ev at *
    first | (go_simp; done) | (go_simp; rfl)
  · obtain ⟨pos, after, hop⟩ := op17_21
    have e1 : a.eval (.tmp 1) = (.pointer (some ⟨g1, 0, none⟩)) := eval_tmp ((ho 1 (by decide)).trans h1)
    refine op_yields hop ((wanted_some rfl dst17_18 (hj 18 (by decide))).trans rfl) ?_ hs rfl
    clear hj ho hop hdone hS
    have ec : ∀ v, a.eval (.const v) = v := fun _ => rfl
    clear hsa hk
    generalize a.eval = ev at *
    first | (go_simp; done) | (go_simp; rfl)
  · obtain ⟨pos, after, hop⟩ := op17_22
    have e96 : a.eval (.tmp 96) = (.pointer (some ⟨g1, 2, none⟩)) := eval_tmp (hj 21 (by decide))
    have c_k4 := k4 W hs
    refine op_yields hop ((wanted_some rfl dst17_18 (hj 18 (by decide))).trans rfl) ?_ hs rfl
    clear hj ho hop hdone hS
    have ec : ∀ v, a.eval (.const v) = v := fun _ => rfl
    clear hsa hk
    generalize a.eval = ev at *
    first | (go_simp; done) | (go_simp; rfl)
  · obtain ⟨pos, after, hop⟩ := op17_23
    have e11 : a.eval (.tmp 11) = (.int .i64 (i : Int)) := eval_tmp ((ho 11 (by decide)).trans h11)
    refine op_yields hop ((wanted_some rfl dst17_18 (hj 18 (by decide))).trans rfl) ?_ hs rfl
    clear hj ho hop hdone hS
    have ec : ∀ v, a.eval (.const v) = v := fun _ => rfl
    clear hsa hk
    generalize a.eval = ev at *
    first | (go_simp; done) | (go_simp; rfl)
  · obtain ⟨pos, after, hop⟩ := op17_24
    have e98 : a.eval (.tmp 98) = (.int .i64 (i : Int)) := eval_tmp (hj 23 (by decide))
    refine op_yields hop ((wanted_some rfl dst17_18 (hj 18 (by decide))).trans rfl) ?_ hs rfl
    clear hj ho hop hdone hS
    have ec : ∀ v, a.eval (.const v) = v := fun _ => rfl
    clear hsa hk
    generalize a.eval = ev at *
    first | (go_simp; done) | (go_simp; rfl)
  · obtain ⟨pos, after, hop⟩ := op17_25
    have e97 : a.eval (.tmp 97) = (.slice (some ad) l0_2.length c0_2) := eval_tmp (hj 22 (by decide))
    have e99 : a.eval (.tmp 99) = (.int .i64 ((i : Int) - 1)) := eval_tmp (hj 24 (by decide))
    have hv2 : ¬ ((i : Int) < 1) := by omega
    have hv3 : ¬ (l0_2.length : Int) ≤ (i : Int) - 1 := by omega
    refine op_yields hop ((wanted_some rfl dst17_18 (hj 18 (by decide))).trans rfl) ?_ hs rfl
    clear hj ho hop hdone hS
    have ec : ∀ v, a.eval (.const v) = v := fun _ => rfl
    clear hsa hk
    generalize a.eval = ev at *
    first | (go_simp; done) | (go_simp; rfl)
  · obtain ⟨pos, after, hop⟩ := op17_26
    have e100 : a.eval (.tmp 100) = (.pointer (some (ad.add ((i - 1) * 2)))) := eval_tmp (hj 25 (by decide))
    refine op_yields hop ((wanted_some rfl dst17_18 (hj 18 (by decide))).trans rfl) ?_ hs rfl
    clear hj ho hop hdone hS
    have ec : ∀ v, a.eval (.const v) = v := fun _ => rfl
    clear hsa hk
    generalize a.eval = ev at *
    first | (go_simp; done) | (go_simp; rfl)
  · obtain ⟨pos, after, hop⟩ := op17_27
    have e101 : a.eval (.tmp 101) = (.pointer (some (ad.add ((i - 1) * 2)))) := eval_tmp (hj 26 (by decide))
    have c_k5 := k5 W hs
    refine op_yields hop ((wanted_some rfl dst17_18 (hj 18 (by decide))).trans rfl) ?_ hs rfl
    clear hj ho hop hdone hS
    have ec : ∀ v, a.eval (.const v) = v := fun _ => rfl
    clear hsa hk
    generalize a.eval = ev at *
    first | (go_simp; done) | (go_simp; rfl)
  · obtain ⟨pos, after, hop⟩ := op17_28
    have e95 : a.eval (.tmp 95) = (.string nm) := eval_tmp (hj 20 (by decide))
    have e102 : a.eval (.tmp 102) = (.string pn) := eval_tmp (hj 27 (by decide))
    have hle3 := hle
    simp at hle3
    refine op_yields hop ((wanted_some rfl dst17_18 (hj 18 (by decide))).trans rfl) ?_ hs rfl
    clear hj ho hop hdone hS
    have ec : ∀ v, a.eval (.const v) = v := fun _ => rfl
    clear hsa hk
    generalize a.eval = ev at *
    first | (go_simp; done) | (go_simp; rfl) | (go_simp; exact hle3)
  · obtain ⟨pos, after, hop⟩ := op17_29
    have e93 : a.eval (.tmp 93) = (.bool true) := eval_tmp (hj 18 (by decide))
    have e103 : a.eval (.tmp 103) = (.bool true) := eval_tmp (hj 28 (by decide))
    refine op_yields hop ((wanted_some rfl dst17_15 (hj 15 (by decide))).trans rfl) ?_ hs rfl
    clear hj ho hop hdone hS
    have ec : ∀ v, a.eval (.const v) = v := fun _ => rfl
    clear hsa hk
    generalize a.eval = ev at *
    first | (go_simp; done) | (go_simp; rfl)
  · obtain ⟨pos, after, hop⟩ := op17_30
    have e90 : a.eval (.tmp 90) = (.bool false) := eval_tmp (hj 15 (by decide))
    have e104 : a.eval (.tmp 104) = (.bool true) := eval_tmp (hj 29 (by decide))
    refine op_yields hop (wanted_none rfl _) ?_ hs rfl
    clear hj ho hop hdone hS
    have ec : ∀ v, a.eval (.const v) = v := fun _ => rfl
    clear hsa hk
    generalize a.eval = ev at *
    first | (go_simp; done) | (go_simp; rfl)
set_option maxRecDepth 100000 in
set_option maxHeartbeats 4000000 in
theorem r17_Aok {Q : Exit → Act → World → Prop} {id : Nat} {a0 : Act} {w : World} (S : World → Prop) (gp gx g1 : Nat) (i : Nat) (nm vl : ByteArray) (h11 : a0.tmps[11]? = some (.int .i64 (i : Int))) (h12 : a0.tmps[12]? = some (.pointer (some ⟨gp, 0, none⟩))) (h13 : a0.tmps[13]? = some (.pointer (some ⟨gx, 0, none⟩))) (h14 : a0.tmps[14]? = some (.bool false)) (h1 : a0.tmps[1]? = some (.pointer (some ⟨g1, 0, none⟩))) (hsz : a0.tmps.size = 162) (hS : S w.drew) (k1 : ∀ W, S W → W.cell? ⟨gp, 0, none⟩ = some (.string nm)) (be2 : (nm.toList != ([101, 110, 115, 117, 114, 101] : List UInt8)) = false) (hz : decide ((0 : Int) < (i : Int)) = true) (l0_2 : List S31) (c0_2 : Nat) (ad : Addr) (pn : ByteArray) (hw1 : IntKind.i64.wrap ((i : Int) - 1) = (i : Int) - 1) (hv0 : (0 : Int) ≤ (i : Int) - 1) (hv1 : (i : Int) - 1 < (l0_2.length : Int)) (k4 : ∀ W, S W → W.cell? ⟨g1, 2, none⟩ = some (.slice (some ad) l0_2.length c0_2)) (k5 : ∀ W, S W → W.cell? (ad.add ((i - 1) * 2)) = some (.string pn)) (hle : (Op.bytesLess nm.toList pn.toList || nm.toList == pn.toList) = false)
    (hdone : ∀ W, S W → Q .normal (actE a0 (List.replicate 31 true) d17 ([(.pointer (some ⟨gp, 0, none⟩)), (.string nm), (.bool false), (.bool false), undef, undef, undef, undef, undef, undef, undef, undef, undef, undef, (.bool false), (.bool false), (.int .i64 (i : Int)), (.bool true), (.bool true), (.pointer (some ⟨gp, 0, none⟩)), (.string nm), (.pointer (some ⟨g1, 2, none⟩)), (.slice (some ad) l0_2.length c0_2), (.int .i64 (i : Int)), (.int .i64 ((i : Int) - 1)), (.pointer (some (ad.add ((i - 1) * 2)))), (.pointer (some (ad.add ((i - 1) * 2)))), (.string pn), (.bool false), (.bool false), (.bool false)] : List Value)) W) : (Code.region id (opsOf Tryz.f11 17) true).wp Tryz.prog Q a0 w := by
  have hu24 := Tryz.underlying24
  have hu31 := Tryz.underlying31
  have hu68 := Tryz.underlying68
  have hu22 := Tryz.underlying22
  refine region_exp (N := n17) (D := d17) (E := ([(.pointer (some ⟨gp, 0, none⟩)), (.string nm), (.bool false), (.bool false), undef, undef, undef, undef, undef, undef, undef, undef, undef, undef, (.bool false), (.bool false), (.int .i64 (i : Int)), (.bool true), (.bool true), (.pointer (some ⟨gp, 0, none⟩)), (.string nm), (.pointer (some ⟨g1, 2, none⟩)), (.slice (some ad) l0_2.length c0_2), (.int .i64 (i : Int)), (.int .i64 ((i : Int) - 1)), (.pointer (some (ad.add ((i - 1) * 2)))), (.pointer (some (ad.add ((i - 1) * 2)))), (.string pn), (.bool false), (.bool false), (.bool false)] : List Value)) S t17 (by kernel_rfl) (by decide) rfl rfl (by decide) (by intro d hd; rw [hsz]; revert d; decide) hS ?_ hdone
  intro k hk a W hs hsa hj ho
  have hcase : k = 0 ∨ k = 1 ∨ k = 2 ∨ k = 3 ∨ k = 4 ∨ k = 5 ∨ k = 6 ∨ k = 7 ∨ k = 8 ∨ k = 9 ∨ k = 10 ∨ k = 11 ∨ k = 12 ∨ k = 13 ∨ k = 14 ∨ k = 15 ∨ k = 16 ∨ k = 17 ∨ k = 18 ∨ k = 19 ∨ k = 20 ∨ k = 21 ∨ k = 22 ∨ k = 23 ∨ k = 24 ∨ k = 25 ∨ k = 26 ∨ k = 27 ∨ k = 28 ∨ k = 29 ∨ k = 30 := by have : n17.length = 31 := rfl; omega
  rcases hcase with rfl | rfl | rfl | rfl | rfl | rfl | rfl | rfl | rfl | rfl | rfl | rfl | rfl | rfl | rfl | rfl | rfl | rfl | rfl | rfl | rfl | rfl | rfl | rfl | rfl | rfl | rfl | rfl | rfl | rfl | rfl
  · obtain ⟨pos, after, hop⟩ := op17_0
    have e12 : a.eval (.tmp 12) = (.pointer (some ⟨gp, 0, none⟩)) := eval_tmp ((ho 12 (by decide)).trans h12)
    refine op_yields hop (wanted_none rfl _) ?_ hs rfl
    clear hj ho hop hdone hS
    have ec : ∀ v, a.eval (.const v) = v := fun _ => rfl
    clear hsa hk
    generalize a.eval = ev at *
    first | (go_simp; done) | (go_simp; rfl)
  · obtain ⟨pos, after, hop⟩ := op17_1
    have e75 : a.eval (.tmp 75) = (.pointer (some ⟨gp, 0, none⟩)) := eval_tmp (hj 0 (by decide))
    have c_k1 := k1 W hs
    refine op_yields hop (wanted_none rfl _) ?_ hs rfl
    clear hj ho hop hdone hS
    have ec : ∀ v, a.eval (.const v) = v := fun _ => rfl
    clear hsa hk
    generalize a.eval = ev at *
    first | (go_simp; done) | (go_simp; rfl)
  · obtain ⟨pos, after, hop⟩ := op17_2
    have e76 : a.eval (.tmp 76) = (.string nm) := eval_tmp (hj 1 (by decide))
    have be3 : nm.toList = ([101, 110, 115, 117, 114, 101] : List UInt8) := by simpa using be2
    refine op_yields hop (wanted_none rfl _) ?_ hs rfl
    clear hj ho hop hdone hS
    have ec : ∀ v, a.eval (.const v) = v := fun _ => rfl
    clear hsa hk
    generalize a.eval = ev at *
    first | (go_simp; done) | (go_simp; rfl) | (go_simp; exact be3)
  · obtain ⟨pos, after, hop⟩ := op17_3
    have e77 : a.eval (.tmp 77) = (.bool false) := eval_tmp (hj 2 (by decide))
    refine op_yields hop (wanted_none rfl _) ?_ hs rfl
    clear hj ho hop hdone hS
    have ec : ∀ v, a.eval (.const v) = v := fun _ => rfl
    clear hsa hk
    generalize a.eval = ev at *
    first | (go_simp; done) | (go_simp; rfl)
  · obtain ⟨pos, after, hop⟩ := op17_4
    exact op_struck hop ((wanted_some rfl dst17_3 (hj 3 (by decide))).trans rfl) hs rfl
  · obtain ⟨pos, after, hop⟩ := op17_5
    exact op_struck hop ((wanted_some rfl dst17_3 (hj 3 (by decide))).trans rfl) hs rfl
  · obtain ⟨pos, after, hop⟩ := op17_6
    exact op_struck hop ((wanted_some rfl dst17_3 (hj 3 (by decide))).trans rfl) hs rfl
  · obtain ⟨pos, after, hop⟩ := op17_7
    exact op_struck hop (wanted_undef rfl dst17_6 (hj 6 (by decide))) hs rfl
  · obtain ⟨pos, after, hop⟩ := op17_8
    exact op_struck hop (wanted_undef rfl dst17_6 (hj 6 (by decide))) hs rfl
  · obtain ⟨pos, after, hop⟩ := op17_9
    exact op_struck hop (wanted_undef rfl dst17_6 (hj 6 (by decide))) hs rfl
  · obtain ⟨pos, after, hop⟩ := op17_10
    exact op_struck hop (wanted_undef rfl dst17_6 (hj 6 (by decide))) hs rfl
  · obtain ⟨pos, after, hop⟩ := op17_11
    exact op_struck hop (wanted_undef rfl dst17_6 (hj 6 (by decide))) hs rfl
  · obtain ⟨pos, after, hop⟩ := op17_12
    exact op_struck hop (wanted_undef rfl dst17_6 (hj 6 (by decide))) hs rfl
  · obtain ⟨pos, after, hop⟩ := op17_13
    exact op_struck hop ((wanted_some rfl dst17_3 (hj 3 (by decide))).trans rfl) hs rfl
  · obtain ⟨pos, after, hop⟩ := op17_14
    have e78 : a.eval (.tmp 78) = (.bool false) := eval_tmp (hj 3 (by decide))
    have e88 : a.eval (.tmp 88) = undef := eval_tmp (hj 13 (by decide))
    refine op_yields hop (wanted_none rfl _) ?_ hs rfl
    clear hj ho hop hdone hS
    have ec : ∀ v, a.eval (.const v) = v := fun _ => rfl
    clear hsa hk
    generalize a.eval = ev at *
    first | (go_simp; done) | (go_simp; rfl)
  · obtain ⟨pos, after, hop⟩ := op17_15
    have e89 : a.eval (.tmp 89) = (.bool false) := eval_tmp (hj 14 (by decide))
    refine op_yields hop (wanted_none rfl _) ?_ hs rfl
    clear hj ho hop hdone hS
    have ec : ∀ v, a.eval (.const v) = v := fun _ => rfl
    clear hsa hk
    generalize a.eval = ev at *
    first | (go_simp; done) | (go_simp; rfl)
  · obtain ⟨pos, after, hop⟩ := op17_16
    have e11 : a.eval (.tmp 11) = (.int .i64 (i : Int)) := eval_tmp ((ho 11 (by decide)).trans h11)
    refine op_yields hop ((wanted_some rfl dst17_15 (hj 15 (by decide))).trans rfl) ?_ hs rfl
    clear hj ho hop hdone hS
    have ec : ∀ v, a.eval (.const v) = v := fun _ => rfl
    clear hsa hk
    generalize a.eval = ev at *
    first | (go_simp; done) | (go_simp; rfl)
  · obtain ⟨pos, after, hop⟩ := op17_17
    have e91 : a.eval (.tmp 91) = (.int .i64 (i : Int)) := eval_tmp (hj 16 (by decide))
    have hz3 : 0 < i := by simpa using hz
    refine op_yields hop ((wanted_some rfl dst17_15 (hj 15 (by decide))).trans rfl) ?_ hs rfl
    clear hj ho hop hdone hS
    have ec : ∀ v, a.eval (.const v) = v := fun _ => rfl
    clear hsa hk
    generalize a.eval = ev at *
    first | (go_simp; done) | (go_simp; rfl) | (go_simp; exact hz3)
  · obtain ⟨pos, after, hop⟩ := op17_18
    have e92 : a.eval (.tmp 92) = (.bool true) := eval_tmp (hj 17 (by decide))
    refine op_yields hop ((wanted_some rfl dst17_15 (hj 15 (by decide))).trans rfl) ?_ hs rfl
    clear hj ho hop hdone hS
    have ec : ∀ v, a.eval (.const v) = v := fun _ => rfl
    clear hsa hk
    generalize a.eval = ev at *
    first | (go_simp; done) | (go_simp; rfl)
  · obtain ⟨pos, after, hop⟩ := op17_19
    have e12 : a.eval (.tmp 12) = (.pointer (some ⟨gp, 0, none⟩)) := eval_tmp ((ho 12 (by decide)).trans h12)
    refine op_yields hop ((wanted_some rfl dst17_18 (hj 18 (by decide))).trans rfl) ?_ hs rfl
    clear hj ho hop hdone hS
    have ec : ∀ v, a.eval (.const v) = v := fun _ => rfl
    clear hsa hk
    generalize a.eval = ev at *
    first | (go_simp; done) | (go_simp; rfl)
  · obtain ⟨pos, after, hop⟩ := op17_20
    have e94 : a.eval (.tmp 94) = (.pointer (some ⟨gp, 0, none⟩)) := eval_tmp (hj 19 (by decide))
    have c_k1 := k1 W hs
    refine op_yields hop ((wanted_some rfl dst17_18 (hj 18 (by decide))).trans rfl) ?_ hs rfl
    clear hj ho hop hdone hS
    have ec : ∀ v, a.eval (.const v) = v := fun _ => rfl
    clear hsa hk
    generalize a.eval = ev at *
    first | (go_simp; done) | (go_simp; rfl)
  · obtain ⟨pos, after, hop⟩ := op17_21
    have e1 : a.eval (.tmp 1) = (.pointer (some ⟨g1, 0, none⟩)) := eval_tmp ((ho 1 (by decide)).trans h1)
    refine op_yields hop ((wanted_some rfl dst17_18 (hj 18 (by decide))).trans rfl) ?_ hs rfl
    clear hj ho hop hdone hS
    have ec : ∀ v, a.eval (.const v) = v := fun _ => rfl
    clear hsa hk
    generalize a.eval = ev at *
    first | (go_simp; done) | (go_simp; rfl)
  · obtain ⟨pos, after, hop⟩ := op17_22
    have e96 : a.eval (.tmp 96) = (.pointer (some ⟨g1, 2, none⟩)) := eval_tmp (hj 21 (by decide))
    have c_k4 := k4 W hs
    refine op_yields hop ((wanted_some rfl dst17_18 (hj 18 (by decide))).trans rfl) ?_ hs rfl
    clear hj ho hop hdone hS
    have ec : ∀ v, a.eval (.const v) = v := fun _ => rfl
    clear hsa hk
    generalize a.eval = ev at *
    first | (go_simp; done) | (go_simp; rfl)
  · obtain ⟨pos, after, hop⟩ := op17_23
    have e11 : a.eval (.tmp 11) = (.int .i64 (i : Int)) := eval_tmp ((ho 11 (by decide)).trans h11)
    refine op_yields hop ((wanted_some rfl dst17_18 (hj 18 (by decide))).trans rfl) ?_ hs rfl
    clear hj ho hop hdone hS
    have ec : ∀ v, a.eval (.const v) = v := fun _ => rfl
    clear hsa hk
    generalize a.eval = ev at *
    first | (go_simp; done) | (go_simp; rfl)
  · obtain ⟨pos, after, hop⟩ := op17_24
    have e98 : a.eval (.tmp 98) = (.int .i64 (i : Int)) := eval_tmp (hj 23 (by decide))
    refine op_yields hop ((wanted_some rfl dst17_18 (hj 18 (by decide))).trans rfl) ?_ hs rfl
    clear hj ho hop hdone hS
    have ec : ∀ v, a.eval (.const v) = v := fun _ => rfl
    clear hsa hk
    generalize a.eval = ev at *
    first | (go_simp; done) | (go_simp; rfl)
  · obtain ⟨pos, after, hop⟩ := op17_25
    have e97 : a.eval (.tmp 97) = (.slice (some ad) l0_2.length c0_2) := eval_tmp (hj 22 (by decide))
    have e99 : a.eval (.tmp 99) = (.int .i64 ((i : Int) - 1)) := eval_tmp (hj 24 (by decide))
    have hv2 : ¬ ((i : Int) < 1) := by omega
    have hv3 : ¬ (l0_2.length : Int) ≤ (i : Int) - 1 := by omega
    refine op_yields hop ((wanted_some rfl dst17_18 (hj 18 (by decide))).trans rfl) ?_ hs rfl
    clear hj ho hop hdone hS
    have ec : ∀ v, a.eval (.const v) = v := fun _ => rfl
    clear hsa hk
    generalize a.eval = ev at *
    first | (go_simp; done) | (go_simp; rfl)
  · obtain ⟨pos, after, hop⟩ := op17_26
    have e100 : a.eval (.tmp 100) = (.pointer (some (ad.add ((i - 1) * 2)))) := eval_tmp (hj 25 (by decide))
    refine op_yields hop ((wanted_some rfl dst17_18 (hj 18 (by decide))).trans rfl) ?_ hs rfl
    clear hj ho hop hdone hS
    have ec : ∀ v, a.eval (.const v) = v := fun _ => rfl
    clear hsa hk
    generalize a.eval = ev at *
    first | (go_simp; done) | (go_simp; rfl)
  · obtain ⟨pos, after, hop⟩ := op17_27
    have e101 : a.eval (.tmp 101) = (.pointer (some (ad.add ((i - 1) * 2)))) := eval_tmp (hj 26 (by decide))
    have c_k5 := k5 W hs
    refine op_yields hop ((wanted_some rfl dst17_18 (hj 18 (by decide))).trans rfl) ?_ hs rfl
    clear hj ho hop hdone hS
    have ec : ∀ v, a.eval (.const v) = v := fun _ => rfl
    clear hsa hk
    generalize a.eval = ev at *
    first | (go_simp; done) | (go_simp; rfl)
  · obtain ⟨pos, after, hop⟩ := op17_28
    have e95 : a.eval (.tmp 95) = (.string nm) := eval_tmp (hj 20 (by decide))
    have e102 : a.eval (.tmp 102) = (.string pn) := eval_tmp (hj 27 (by decide))
    have hle3 := hle
    simp at hle3
    refine op_yields hop ((wanted_some rfl dst17_18 (hj 18 (by decide))).trans rfl) ?_ hs rfl
    clear hj ho hop hdone hS
    have ec : ∀ v, a.eval (.const v) = v := fun _ => rfl
    clear hsa hk
    generalize a.eval = ev at *
    first | (go_simp; done) | (go_simp; rfl) | (go_simp; exact hle3)
  · obtain ⟨pos, after, hop⟩ := op17_29
    have e93 : a.eval (.tmp 93) = (.bool true) := eval_tmp (hj 18 (by decide))
    have e103 : a.eval (.tmp 103) = (.bool false) := eval_tmp (hj 28 (by decide))
    refine op_yields hop ((wanted_some rfl dst17_15 (hj 15 (by decide))).trans rfl) ?_ hs rfl
    clear hj ho hop hdone hS
    have ec : ∀ v, a.eval (.const v) = v := fun _ => rfl
    clear hsa hk
    generalize a.eval = ev at *
    first | (go_simp; done) | (go_simp; rfl)
  · obtain ⟨pos, after, hop⟩ := op17_30
    have e90 : a.eval (.tmp 90) = (.bool false) := eval_tmp (hj 15 (by decide))
    have e104 : a.eval (.tmp 104) = (.bool false) := eval_tmp (hj 29 (by decide))
    refine op_yields hop (wanted_none rfl _) ?_ hs rfl
    clear hj ho hop hdone hS
    have ec : ∀ v, a.eval (.const v) = v := fun _ => rfl
    clear hsa hk
    generalize a.eval = ev at *
    first | (go_simp; done) | (go_simp; rfl)
set_option maxRecDepth 100000 in
set_option maxHeartbeats 4000000 in
theorem r17_B {Q : Exit → Act → World → Prop} {id : Nat} {a0 : Act} {w : World} (S : World → Prop) (gp gx g1 : Nat) (i : Nat) (nm vl : ByteArray) (h11 : a0.tmps[11]? = some (.int .i64 (i : Int))) (h12 : a0.tmps[12]? = some (.pointer (some ⟨gp, 0, none⟩))) (h13 : a0.tmps[13]? = some (.pointer (some ⟨gx, 0, none⟩))) (h14 : a0.tmps[14]? = some (.bool false)) (h1 : a0.tmps[1]? = some (.pointer (some ⟨g1, 0, none⟩))) (hsz : a0.tmps.size = 162) (hS : S w.drew) (k1 : ∀ W, S W → W.cell? ⟨gp, 0, none⟩ = some (.string nm)) (be2 : (nm.toList != ([101, 110, 115, 117, 114, 101] : List UInt8)) = true)
    (hdone : ∀ W, S W → Q .normal (actE a0 (List.replicate 31 true) d17 ([(.pointer (some ⟨gp, 0, none⟩)), (.string nm), (.bool true), (.bool true), (.bool false), (.bool true), (.bool true), undef, undef, undef, undef, undef, undef, (.bool true), (.bool true), (.bool true), undef, undef, undef, undef, undef, undef, undef, undef, undef, undef, undef, undef, undef, undef, (.bool true)] : List Value)) W) : (Code.region id (opsOf Tryz.f11 17) true).wp Tryz.prog Q a0 w := by
  have hu24 := Tryz.underlying24
  have hu31 := Tryz.underlying31
  have hu68 := Tryz.underlying68
  have hu22 := Tryz.underlying22
  refine region_exp (N := n17) (D := d17) (E := ([(.pointer (some ⟨gp, 0, none⟩)), (.string nm), (.bool true), (.bool true), (.bool false), (.bool true), (.bool true), undef, undef, undef, undef, undef, undef, (.bool true), (.bool true), (.bool true), undef, undef, undef, undef, undef, undef, undef, undef, undef, undef, undef, undef, undef, undef, (.bool true)] : List Value)) S t17 (by kernel_rfl) (by decide) rfl rfl (by decide) (by intro d hd; rw [hsz]; revert d; decide) hS ?_ hdone
  intro k hk a W hs hsa hj ho
  have hcase : k = 0 ∨ k = 1 ∨ k = 2 ∨ k = 3 ∨ k = 4 ∨ k = 5 ∨ k = 6 ∨ k = 7 ∨ k = 8 ∨ k = 9 ∨ k = 10 ∨ k = 11 ∨ k = 12 ∨ k = 13 ∨ k = 14 ∨ k = 15 ∨ k = 16 ∨ k = 17 ∨ k = 18 ∨ k = 19 ∨ k = 20 ∨ k = 21 ∨ k = 22 ∨ k = 23 ∨ k = 24 ∨ k = 25 ∨ k = 26 ∨ k = 27 ∨ k = 28 ∨ k = 29 ∨ k = 30 := by have : n17.length = 31 := rfl; omega
  rcases hcase with rfl | rfl | rfl | rfl | rfl | rfl | rfl | rfl | rfl | rfl | rfl | rfl | rfl | rfl | rfl | rfl | rfl | rfl | rfl | rfl | rfl | rfl | rfl | rfl | rfl | rfl | rfl | rfl | rfl | rfl | rfl
  · obtain ⟨pos, after, hop⟩ := op17_0
    have e12 : a.eval (.tmp 12) = (.pointer (some ⟨gp, 0, none⟩)) := eval_tmp ((ho 12 (by decide)).trans h12)
    refine op_yields hop (wanted_none rfl _) ?_ hs rfl
    clear hj ho hop hdone hS
    have ec : ∀ v, a.eval (.const v) = v := fun _ => rfl
    clear hsa hk
    generalize a.eval = ev at *
    first | (go_simp; done) | (go_simp; rfl)
  · obtain ⟨pos, after, hop⟩ := op17_1
    have e75 : a.eval (.tmp 75) = (.pointer (some ⟨gp, 0, none⟩)) := eval_tmp (hj 0 (by decide))
    have c_k1 := k1 W hs
    refine op_yields hop (wanted_none rfl _) ?_ hs rfl
    clear hj ho hop hdone hS
    have ec : ∀ v, a.eval (.const v) = v := fun _ => rfl
    clear hsa hk
    generalize a.eval = ev at *
    first | (go_simp; done) | (go_simp; rfl)
  · obtain ⟨pos, after, hop⟩ := op17_2
    have e76 : a.eval (.tmp 76) = (.string nm) := eval_tmp (hj 1 (by decide))
    have be3 : ¬ nm.toList = ([101, 110, 115, 117, 114, 101] : List UInt8) := by simpa using be2
    refine op_yields hop (wanted_none rfl _) ?_ hs rfl
    clear hj ho hop hdone hS
    have ec : ∀ v, a.eval (.const v) = v := fun _ => rfl
    clear hsa hk
    generalize a.eval = ev at *
    first | (go_simp; done) | (go_simp; rfl) | (go_simp; exact be3)
  · obtain ⟨pos, after, hop⟩ := op17_3
    have e77 : a.eval (.tmp 77) = (.bool true) := eval_tmp (hj 2 (by decide))
    refine op_yields hop (wanted_none rfl _) ?_ hs rfl
    clear hj ho hop hdone hS
    have ec : ∀ v, a.eval (.const v) = v := fun _ => rfl
    clear hsa hk
    generalize a.eval = ev at *
    first | (go_simp; done) | (go_simp; rfl)
  · obtain ⟨pos, after, hop⟩ := op17_4
    have e14 : a.eval (.tmp 14) = (.bool false) := eval_tmp ((ho 14 (by decide)).trans h14)
    refine op_yields hop ((wanted_some rfl dst17_3 (hj 3 (by decide))).trans rfl) ?_ hs rfl
    clear hj ho hop hdone hS
    have ec : ∀ v, a.eval (.const v) = v := fun _ => rfl
    clear hsa hk
    generalize a.eval = ev at *
    first | (go_simp; done) | (go_simp; rfl)
  · obtain ⟨pos, after, hop⟩ := op17_5
    have e79 : a.eval (.tmp 79) = (.bool false) := eval_tmp (hj 4 (by decide))
    refine op_yields hop ((wanted_some rfl dst17_3 (hj 3 (by decide))).trans rfl) ?_ hs rfl
    clear hj ho hop hdone hS
    have ec : ∀ v, a.eval (.const v) = v := fun _ => rfl
    clear hsa hk
    generalize a.eval = ev at *
    first | (go_simp; done) | (go_simp; rfl)
  · obtain ⟨pos, after, hop⟩ := op17_6
    have e80 : a.eval (.tmp 80) = (.bool true) := eval_tmp (hj 5 (by decide))
    refine op_yields hop ((wanted_some rfl dst17_3 (hj 3 (by decide))).trans rfl) ?_ hs rfl
    clear hj ho hop hdone hS
    have ec : ∀ v, a.eval (.const v) = v := fun _ => rfl
    clear hsa hk
    generalize a.eval = ev at *
    first | (go_simp; done) | (go_simp; rfl)
  · obtain ⟨pos, after, hop⟩ := op17_7
    exact op_struck hop ((wanted_some rfl dst17_6 (hj 6 (by decide))).trans rfl) hs rfl
  · obtain ⟨pos, after, hop⟩ := op17_8
    exact op_struck hop ((wanted_some rfl dst17_6 (hj 6 (by decide))).trans rfl) hs rfl
  · obtain ⟨pos, after, hop⟩ := op17_9
    exact op_struck hop ((wanted_some rfl dst17_6 (hj 6 (by decide))).trans rfl) hs rfl
  · obtain ⟨pos, after, hop⟩ := op17_10
    exact op_struck hop ((wanted_some rfl dst17_6 (hj 6 (by decide))).trans rfl) hs rfl
  · obtain ⟨pos, after, hop⟩ := op17_11
    exact op_struck hop ((wanted_some rfl dst17_6 (hj 6 (by decide))).trans rfl) hs rfl
  · obtain ⟨pos, after, hop⟩ := op17_12
    exact op_struck hop ((wanted_some rfl dst17_6 (hj 6 (by decide))).trans rfl) hs rfl
  · obtain ⟨pos, after, hop⟩ := op17_13
    have e81 : a.eval (.tmp 81) = (.bool true) := eval_tmp (hj 6 (by decide))
    have e87 : a.eval (.tmp 87) = undef := eval_tmp (hj 12 (by decide))
    refine op_yields hop ((wanted_some rfl dst17_3 (hj 3 (by decide))).trans rfl) ?_ hs rfl
    clear hj ho hop hdone hS
    have ec : ∀ v, a.eval (.const v) = v := fun _ => rfl
    clear hsa hk
    generalize a.eval = ev at *
    first | (go_simp; done) | (go_simp; rfl)
  · obtain ⟨pos, after, hop⟩ := op17_14
    have e78 : a.eval (.tmp 78) = (.bool true) := eval_tmp (hj 3 (by decide))
    have e88 : a.eval (.tmp 88) = (.bool true) := eval_tmp (hj 13 (by decide))
    refine op_yields hop (wanted_none rfl _) ?_ hs rfl
    clear hj ho hop hdone hS
    have ec : ∀ v, a.eval (.const v) = v := fun _ => rfl
    clear hsa hk
    generalize a.eval = ev at *
    first | (go_simp; done) | (go_simp; rfl)
  · obtain ⟨pos, after, hop⟩ := op17_15
    have e89 : a.eval (.tmp 89) = (.bool true) := eval_tmp (hj 14 (by decide))
    refine op_yields hop (wanted_none rfl _) ?_ hs rfl
    clear hj ho hop hdone hS
    have ec : ∀ v, a.eval (.const v) = v := fun _ => rfl
    clear hsa hk
    generalize a.eval = ev at *
    first | (go_simp; done) | (go_simp; rfl)
  · obtain ⟨pos, after, hop⟩ := op17_16
    exact op_struck hop ((wanted_some rfl dst17_15 (hj 15 (by decide))).trans rfl) hs rfl
  · obtain ⟨pos, after, hop⟩ := op17_17
    exact op_struck hop ((wanted_some rfl dst17_15 (hj 15 (by decide))).trans rfl) hs rfl
  · obtain ⟨pos, after, hop⟩ := op17_18
    exact op_struck hop ((wanted_some rfl dst17_15 (hj 15 (by decide))).trans rfl) hs rfl
  · obtain ⟨pos, after, hop⟩ := op17_19
    exact op_struck hop (wanted_undef rfl dst17_18 (hj 18 (by decide))) hs rfl
  · obtain ⟨pos, after, hop⟩ := op17_20
    exact op_struck hop (wanted_undef rfl dst17_18 (hj 18 (by decide))) hs rfl
  · obtain ⟨pos, after, hop⟩ := op17_21
    exact op_struck hop (wanted_undef rfl dst17_18 (hj 18 (by decide))) hs rfl
  · obtain ⟨pos, after, hop⟩ := op17_22
    exact op_struck hop (wanted_undef rfl dst17_18 (hj 18 (by decide))) hs rfl
  · obtain ⟨pos, after, hop⟩ := op17_23
    exact op_struck hop (wanted_undef rfl dst17_18 (hj 18 (by decide))) hs rfl
  · obtain ⟨pos, after, hop⟩ := op17_24
    exact op_struck hop (wanted_undef rfl dst17_18 (hj 18 (by decide))) hs rfl
  · obtain ⟨pos, after, hop⟩ := op17_25
    exact op_struck hop (wanted_undef rfl dst17_18 (hj 18 (by decide))) hs rfl
  · obtain ⟨pos, after, hop⟩ := op17_26
    exact op_struck hop (wanted_undef rfl dst17_18 (hj 18 (by decide))) hs rfl
  · obtain ⟨pos, after, hop⟩ := op17_27
    exact op_struck hop (wanted_undef rfl dst17_18 (hj 18 (by decide))) hs rfl
  · obtain ⟨pos, after, hop⟩ := op17_28
    exact op_struck hop (wanted_undef rfl dst17_18 (hj 18 (by decide))) hs rfl
  · obtain ⟨pos, after, hop⟩ := op17_29
    exact op_struck hop ((wanted_some rfl dst17_15 (hj 15 (by decide))).trans rfl) hs rfl
  · obtain ⟨pos, after, hop⟩ := op17_30
    have e90 : a.eval (.tmp 90) = (.bool true) := eval_tmp (hj 15 (by decide))
    have e104 : a.eval (.tmp 104) = undef := eval_tmp (hj 29 (by decide))
    refine op_yields hop (wanted_none rfl _) ?_ hs rfl
    clear hj ho hop hdone hS
    have ec : ∀ v, a.eval (.const v) = v := fun _ => rfl
    clear hsa hk
    generalize a.eval = ev at *
    first | (go_simp; done) | (go_simp; rfl)
end Go.Proofs.YtkgafkoopefghaaGreatDoor.PA
end
