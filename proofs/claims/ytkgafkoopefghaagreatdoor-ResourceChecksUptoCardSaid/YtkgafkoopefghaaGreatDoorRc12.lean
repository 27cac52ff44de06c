/- A part of this law; its conditions stand in the last text. -/
import Derived.Test.YtkgafkoopefghaaGreatDoorRc10
import Derived.Test.YtkgafkoopefghaaGreatDoorRc5
import Derived.Test.YtkgafkoopefghaaGreatDoorRc11
section
namespace Go.Proofs.YtkgafkoopefghaaGreatDoor.PA
open Go.RowKit Go.Proofs.YtkgafkoopefghaaGreatDoorW.PrintWords Go.Proofs.YtkgafkoopefghaaGreatDoorW.PrintLast Go.Proofs.YtkgafkoopefghaaGreatDoorW.PrintMore
open Go.Proofs.YtkgafkoopefghaaGreatDoor.Hk
attribute [local go_sem] max2_int min2_int max_two min_two max_three min_three max_four min_four
set_option linter.unusedVariables false
set_option linter.unusedSimpArgs false
def tables_word.f (a0 : ByteArray) (a1 : Int) : Option (Bool) := if (a0.size : Int) ≤ a1 then ((strings_Trim.f a0 (⟨#[97, 98, 99, 100, 101, 102, 103, 104, 105, 106, 107, 108, 109, 110, 111, 112, 113, 114, 115, 116, 117, 118, 119, 120, 121, 122, 65, 66, 67, 68, 69, 70, 71, 72, 73, 74, 75, 76, 77, 78, 79, 80, 81, 82, 83, 84, 85, 86, 87, 88, 89, 90, 48, 49, 50, 51, 52, 53, 54, 55, 56, 57, 46, 95, 45, 47]⟩ : ByteArray)).bind fun t105 => (some (t105.toList == ([] : List UInt8)))) else (some false)
set_option maxHeartbeats 8000000 in
set_option maxRecDepth 100000 in
theorem tables_word.calls (a0 : ByteArray) (a1 : Int) (r : Bool) (w : World) (h : tables_word.f a0 a1 = some r) :
 Calls Tryz.prog 79 #[.string a0, .int .i64 a1] w fun e w' => e = .returned (.bool r) ∧ Below w.heap.size w w' := by
 have HB := As.mk (Below.refl w.heap.size w)
 have H : (if (a0.size : Int) ≤ a1 then ((strings_Trim.f a0 (⟨#[97, 98, 99, 100, 101, 102, 103, 104, 105, 106, 107, 108, 109, 110, 111, 112, 113, 114, 115, 116, 117, 118, 119, 120, 121, 122, 65, 66, 67, 68, 69, 70, 71, 72, 73, 74, 75, 76, 77, 78, 79, 80, 81, 82, 83, 84, 85, 86, 87, 88, 89, 90, 48, 49, 50, 51, 52, 53, 54, 55, 56, 57, 46, 95, 45, 47]⟩ : ByteArray)).bind fun t105 => (some (t105.toList == ([] : List UInt8)))) else (some false)) = some r := h
 clear h
 by_cases c3 : (a0.size : Int) ≤ a1
 rotate_left
 · rw [if_neg c3] at H
   have c3b0 : decide ((a0.size : Int) ≤ a1) = false := decide_eq_false c3
   clear c3
   obtain rfl := Option.some.inj H
   go_enter Tryz.func79, Tryz.ntmps79
   go_wp2
   go_ret
   exact ⟨by first | rfl | (simp [errW_none, errW_some] <;> rfl) | (simp [*, errW_none, errW_some] <;> rfl), by repeat (first | (with_reducible first | exact HB.out | apply bA | apply bN | apply bD) | exact HB.out)⟩
 rw [if_pos c3] at H
 have c3b0 : decide ((a0.size : Int) ≤ a1) = true := decide_eq_true c3
 clear c3
 replace H := Option.bind_eq_some_iff.mp H
 obtain ⟨t105, A40, H⟩ := H
 replace H : (some (t105.toList == ([] : List UInt8))) = some r := H
 have A4 := As.mk A40
 clear A40
 obtain rfl := Option.some.inj H
 go_enter Tryz.func79, Tryz.ntmps79
 go_wp2_with (first | (go_at_call 103; (with_reducible refine (strings_Trim.calls a0 (⟨#[97, 98, 99, 100, 101, 102, 103, 104, 105, 106, 107, 108, 109, 110, 111, 112, 113, 114, 115, 116, 117, 118, 119, 120, 121, 122, 65, 66, 67, 68, 69, 70, 71, 72, 73, 74, 75, 76, 77, 78, 79, 80, 81, 82, 83, 84, 85, 86, 87, 88, 89, 90, 48, 49, 50, 51, 52, 53, 54, 55, 56, 57, 46, 95, 45, 47]⟩ : ByteArray) t105 _ A4.out).mono ?_); rintro e w5 ⟨rfl, hb⟩; have n0_ := As.mk (bT (by repeat (first | (with_reducible first | exact HB.out | apply bA | apply bN | apply bD) | exact HB.out)) hb); clear HB; have HB := n0_; clear n0_; (try clear hb); (try clear hb2); (try clear hk); (try clear hi)))
 go_ret
 exact ⟨by first | rfl | (simp [errW_none, errW_some] <;> rfl) | (simp [*, errW_none, errW_some] <;> rfl), by repeat (first | (with_reducible first | exact HB.out | apply bA | apply bN | apply bD) | exact HB.out)⟩
def layout_Name.f (a0 : ByteArray) : Option (Bool) := if a0.toList = ([] : List UInt8) then (some false) else (if (a0.size : Int) ≤ 28 then (if a0.toList = ([46] : List UInt8) then (some false) else (if a0.toList = ([46, 46] : List UInt8) then (some false) else ((strings_Trim.f a0 (⟨#[65, 66, 67, 68, 69, 70, 71, 72, 73, 74, 75, 76, 77, 78, 79, 80, 81, 82, 83, 84, 85, 86, 87, 88, 89, 90, 97, 98, 99, 100, 101, 102, 103, 104, 105, 106, 107, 108, 109, 110, 111, 112, 113, 114, 115, 116, 117, 118, 119, 120, 121, 122, 48, 49, 50, 51, 52, 53, 54, 55, 56, 57, 46, 95, 45]⟩ : ByteArray)).bind fun t106 => (some (t106.toList == ([] : List UInt8)))))) else (some false))
set_option maxHeartbeats 8000000 in
set_option maxRecDepth 100000 in
theorem layout_Name.calls (a0 : ByteArray) (r : Bool) (w : World) (h : layout_Name.f a0 = some r) :
 Calls Tryz.prog 96 #[.string a0] w fun e w' => e = .returned (.bool r) ∧ Below w.heap.size w w' := by
 have HB := As.mk (Below.refl w.heap.size w)
 have H : (if a0.toList = ([] : List UInt8) then (some false) else (if (a0.size : Int) ≤ 28 then (if a0.toList = ([46] : List UInt8) then (some false) else (if a0.toList = ([46, 46] : List UInt8) then (some false) else ((strings_Trim.f a0 (⟨#[65, 66, 67, 68, 69, 70, 71, 72, 73, 74, 75, 76, 77, 78, 79, 80, 81, 82, 83, 84, 85, 86, 87, 88, 89, 90, 97, 98, 99, 100, 101, 102, 103, 104, 105, 106, 107, 108, 109, 110, 111, 112, 113, 114, 115, 116, 117, 118, 119, 120, 121, 122, 48, 49, 50, 51, 52, 53, 54, 55, 56, 57, 46, 95, 45]⟩ : ByteArray)).bind fun t106 => (some (t106.toList == ([] : List UInt8)))))) else (some false))) = some r := h
 clear h
 by_cases c2 : a0.toList = ([] : List UInt8)
 · rw [if_pos c2] at H
   have c2b0 : (a0.toList == ([] : List UInt8)) = true := beq_iff_eq.mpr c2
   have c2b1 : (a0.toList != ([] : List UInt8)) = false := bne_eq_false_iff_eq.mpr c2
   clear c2
   obtain rfl := Option.some.inj H
   go_enter Tryz.func96, Tryz.ntmps96
   go_wp2
   go_ret
   exact ⟨by first | rfl | (simp [errW_none, errW_some] <;> rfl) | (simp [*, errW_none, errW_some] <;> rfl), by repeat (first | (with_reducible first | exact HB.out | apply bA | apply bN | apply bD) | exact HB.out)⟩
 rw [if_neg c2] at H
 have c2b0 : (a0.toList == ([] : List UInt8)) = false := beq_eq_false_iff_ne.mpr c2
 have c2b1 : (a0.toList != ([] : List UInt8)) = true := bne_iff_ne.mpr c2
 by_cases c3 : (a0.size : Int) ≤ 28
 rotate_left
 · rw [if_neg c3] at H
   have c3b0 : decide ((a0.size : Int) ≤ 28) = false := decide_eq_false c3
   have c3b1 : decide (a0.size ≤ 28) = false := decide_eq_false (by omega)
   clear c3
   obtain rfl := Option.some.inj H
   go_enter Tryz.func96, Tryz.ntmps96
   go_wp2
   go_ret
   exact ⟨by first | rfl | (simp [errW_none, errW_some] <;> rfl) | (simp [*, errW_none, errW_some] <;> rfl), by repeat (first | (with_reducible first | exact HB.out | apply bA | apply bN | apply bD) | exact HB.out)⟩
 rw [if_pos c3] at H
 have c3b0 : decide ((a0.size : Int) ≤ 28) = true := decide_eq_true c3
 have c3b1 : decide (a0.size ≤ 28) = true := decide_eq_true (by omega)
 clear c3
 by_cases c4 : a0.toList = ([46] : List UInt8)
 · rw [if_pos c4] at H
   have c4b0 : (a0.toList == ([46] : List UInt8)) = true := beq_iff_eq.mpr c4
   have c4b1 : (a0.toList != ([46] : List UInt8)) = false := bne_eq_false_iff_eq.mpr c4
   clear c4
   obtain rfl := Option.some.inj H
   go_enter Tryz.func96, Tryz.ntmps96
   go_wp2
   go_ret
   exact ⟨by first | rfl | (simp [errW_none, errW_some] <;> rfl) | (simp [*, errW_none, errW_some] <;> rfl), by repeat (first | (with_reducible first | exact HB.out | apply bA | apply bN | apply bD) | exact HB.out)⟩
 rw [if_neg c4] at H
 have c4b0 : (a0.toList == ([46] : List UInt8)) = false := beq_eq_false_iff_ne.mpr c4
 have c4b1 : (a0.toList != ([46] : List UInt8)) = true := bne_iff_ne.mpr c4
 by_cases c5 : a0.toList = ([46, 46] : List UInt8)
 · rw [if_pos c5] at H
   have c5b0 : (a0.toList == ([46, 46] : List UInt8)) = true := beq_iff_eq.mpr c5
   have c5b1 : (a0.toList != ([46, 46] : List UInt8)) = false := bne_eq_false_iff_eq.mpr c5
   clear c5
   obtain rfl := Option.some.inj H
   go_enter Tryz.func96, Tryz.ntmps96
   go_wp2
   go_ret
   exact ⟨by first | rfl | (simp [errW_none, errW_some] <;> rfl) | (simp [*, errW_none, errW_some] <;> rfl), by repeat (first | (with_reducible first | exact HB.out | apply bA | apply bN | apply bD) | exact HB.out)⟩
 rw [if_neg c5] at H
 have c5b0 : (a0.toList == ([46, 46] : List UInt8)) = false := beq_eq_false_iff_ne.mpr c5
 have c5b1 : (a0.toList != ([46, 46] : List UInt8)) = true := bne_iff_ne.mpr c5
 replace H := Option.bind_eq_some_iff.mp H
 obtain ⟨t106, A60, H⟩ := H
 replace H : (some (t106.toList == ([] : List UInt8))) = some r := H
 have A6 := As.mk A60
 clear A60
 obtain rfl := Option.some.inj H
 go_enter Tryz.func96, Tryz.ntmps96
 go_wp2_with (first | (go_at_call 103; (with_reducible refine (strings_Trim.calls a0 (⟨#[65, 66, 67, 68, 69, 70, 71, 72, 73, 74, 75, 76, 77, 78, 79, 80, 81, 82, 83, 84, 85, 86, 87, 88, 89, 90, 97, 98, 99, 100, 101, 102, 103, 104, 105, 106, 107, 108, 109, 110, 111, 112, 113, 114, 115, 116, 117, 118, 119, 120, 121, 122, 48, 49, 50, 51, 52, 53, 54, 55, 56, 57, 46, 95, 45]⟩ : ByteArray) t106 _ A6.out).mono ?_); rintro e w7 ⟨rfl, hb⟩; have n0_ := As.mk (bT (by repeat (first | (with_reducible first | exact HB.out | apply bA | apply bN | apply bD) | exact HB.out)) hb); clear HB; have HB := n0_; clear n0_; (try clear hb); (try clear hb2); (try clear hk); (try clear hi)))
 go_ret
 exact ⟨by first | rfl | (simp [errW_none, errW_some] <;> rfl) | (simp [*, errW_none, errW_some] <;> rfl), by repeat (first | (with_reducible first | exact HB.out | apply bA | apply bN | apply bD) | exact HB.out)⟩
end Go.Proofs.YtkgafkoopefghaaGreatDoor.PA
end
