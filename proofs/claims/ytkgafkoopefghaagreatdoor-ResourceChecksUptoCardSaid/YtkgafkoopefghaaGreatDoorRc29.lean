/- A part of this law; its conditions stand in the last text. -/
import Derived.Test.YtkgafkoopefghaaGreatDoorRc5
import Derived.Test.YtkgafkoopefghaaGreatDoorRc11
section
namespace Go.Proofs.YtkgafkoopefghaaGreatDoor.PA
open Go.RowKit Go.Proofs.YtkgafkoopefghaaGreatDoorW.PrintWords Go.Proofs.YtkgafkoopefghaaGreatDoorW.PrintLast Go.Proofs.YtkgafkoopefghaaGreatDoorW.PrintMore
open Go.Proofs.YtkgafkoopefghaaGreatDoor.Hk
attribute [local go_sem] max2_int min2_int max_two min_two max_three min_three max_four min_four
set_option linter.unusedVariables false
set_option linter.unusedSimpArgs false
def majordomoref05_Word.l0 : Nat → ByteArray → Int → Int → Option (Bool)
 | 0, _, _, _ => none
 | k + 1, x0, x1, x5 => if x5 < (x0.size : Int) then (if 0 ≤ x5 then (if (bt x0 x5) ≥ 97 then (if (bt x0 x5) ≤ 122 then (majordomoref05_Word.l0 k x0 x1 (wrap64 (x5 + 1))) else (if (bt x0 x5) ≥ 65 then (if (bt x0 x5) ≤ 90 then (majordomoref05_Word.l0 k x0 x1 (wrap64 (x5 + 1))) else (if (bt x0 x5) ≥ 48 then (if (bt x0 x5) ≤ 57 then (majordomoref05_Word.l0 k x0 x1 (wrap64 (x5 + 1))) else (if (bt x0 x5) = 46 then (majordomoref05_Word.l0 k x0 x1 (wrap64 (x5 + 1))) else (if (bt x0 x5) = 95 then (majordomoref05_Word.l0 k x0 x1 (wrap64 (x5 + 1))) else (if (bt x0 x5) = 45 then (majordomoref05_Word.l0 k x0 x1 (wrap64 (x5 + 1))) else (if ((bt x0 x5) = 47) then (majordomoref05_Word.l0 k x0 x1 (wrap64 (x5 + 1))) else (some false)))))) else (if (bt x0 x5) = 46 then (majordomoref05_Word.l0 k x0 x1 (wrap64 (x5 + 1))) else (if (bt x0 x5) = 95 then (majordomoref05_Word.l0 k x0 x1 (wrap64 (x5 + 1))) else (if (bt x0 x5) = 45 then (majordomoref05_Word.l0 k x0 x1 (wrap64 (x5 + 1))) else (if ((bt x0 x5) = 47) then (majordomoref05_Word.l0 k x0 x1 (wrap64 (x5 + 1))) else (some false))))))) else (if (bt x0 x5) ≥ 48 then (if (bt x0 x5) ≤ 57 then (majordomoref05_Word.l0 k x0 x1 (wrap64 (x5 + 1))) else (if (bt x0 x5) = 46 then (majordomoref05_Word.l0 k x0 x1 (wrap64 (x5 + 1))) else (if (bt x0 x5) = 95 then (majordomoref05_Word.l0 k x0 x1 (wrap64 (x5 + 1))) else (if (bt x0 x5) = 45 then (majordomoref05_Word.l0 k x0 x1 (wrap64 (x5 + 1))) else (if ((bt x0 x5) = 47) then (majordomoref05_Word.l0 k x0 x1 (wrap64 (x5 + 1))) else (some false)))))) else (if (bt x0 x5) = 46 then (majordomoref05_Word.l0 k x0 x1 (wrap64 (x5 + 1))) else (if (bt x0 x5) = 95 then (majordomoref05_Word.l0 k x0 x1 (wrap64 (x5 + 1))) else (if (bt x0 x5) = 45 then (majordomoref05_Word.l0 k x0 x1 (wrap64 (x5 + 1))) else (if ((bt x0 x5) = 47) then (majordomoref05_Word.l0 k x0 x1 (wrap64 (x5 + 1))) else (some false)))))))) else (if (bt x0 x5) ≥ 65 then (if (bt x0 x5) ≤ 90 then (majordomoref05_Word.l0 k x0 x1 (wrap64 (x5 + 1))) else (if (bt x0 x5) ≥ 48 then (if (bt x0 x5) ≤ 57 then (majordomoref05_Word.l0 k x0 x1 (wrap64 (x5 + 1))) else (if (bt x0 x5) = 46 then (majordomoref05_Word.l0 k x0 x1 (wrap64 (x5 + 1))) else (if (bt x0 x5) = 95 then (majordomoref05_Word.l0 k x0 x1 (wrap64 (x5 + 1))) else (if (bt x0 x5) = 45 then (majordomoref05_Word.l0 k x0 x1 (wrap64 (x5 + 1))) else (if ((bt x0 x5) = 47) then (majordomoref05_Word.l0 k x0 x1 (wrap64 (x5 + 1))) else (some false)))))) else (if (bt x0 x5) = 46 then (majordomoref05_Word.l0 k x0 x1 (wrap64 (x5 + 1))) else (if (bt x0 x5) = 95 then (majordomoref05_Word.l0 k x0 x1 (wrap64 (x5 + 1))) else (if (bt x0 x5) = 45 then (majordomoref05_Word.l0 k x0 x1 (wrap64 (x5 + 1))) else (if ((bt x0 x5) = 47) then (majordomoref05_Word.l0 k x0 x1 (wrap64 (x5 + 1))) else (some false))))))) else (if (bt x0 x5) ≥ 48 then (if (bt x0 x5) ≤ 57 then (majordomoref05_Word.l0 k x0 x1 (wrap64 (x5 + 1))) else (if (bt x0 x5) = 46 then (majordomoref05_Word.l0 k x0 x1 (wrap64 (x5 + 1))) else (if (bt x0 x5) = 95 then (majordomoref05_Word.l0 k x0 x1 (wrap64 (x5 + 1))) else (if (bt x0 x5) = 45 then (majordomoref05_Word.l0 k x0 x1 (wrap64 (x5 + 1))) else (if ((bt x0 x5) = 47) then (majordomoref05_Word.l0 k x0 x1 (wrap64 (x5 + 1))) else (some false)))))) else (if (bt x0 x5) = 46 then (majordomoref05_Word.l0 k x0 x1 (wrap64 (x5 + 1))) else (if (bt x0 x5) = 95 then (majordomoref05_Word.l0 k x0 x1 (wrap64 (x5 + 1))) else (if (bt x0 x5) = 45 then (majordomoref05_Word.l0 k x0 x1 (wrap64 (x5 + 1))) else (if ((bt x0 x5) = 47) then (majordomoref05_Word.l0 k x0 x1 (wrap64 (x5 + 1))) else (some false)))))))) else (none)) else (some (decide ((x0.size : Int) ≤ x1)))
def majordomoref05_Word.f (k : Nat) (a0 : ByteArray) (a1 : Int) : Option (Bool) := majordomoref05_Word.l0 k a0 a1 0
def ClsF (c : Int) (b1 b2 b3 b4 b5 b6 e1 e2 e3 e4 n1 n2 n3 n4 : Bool) : Prop :=
 decide (97 ≤ c) = b1 ∧ decide (c ≤ 122) = b2 ∧ decide (65 ≤ c) = b3 ∧ decide (c ≤ 90) = b4 ∧ decide (48 ≤ c) = b5 ∧ decide (c ≤ 57) = b6 ∧ (c == 46) = e1 ∧ (c == 95) = e2 ∧ (c == 45) = e3 ∧ (c == 47) = e4 ∧ (c != 46) = n1 ∧ (c != 95) = n2 ∧ (c != 45) = n3 ∧ (c != 47) = n4
def okW (c : Int) : Bool := decide ((97 ≤ c ∧ c ≤ 122) ∨ (65 ≤ c ∧ c ≤ 90) ∨ (48 ≤ c ∧ c ≤ 57) ∨ c = 46 ∨ c = 95 ∨ c = 45 ∨ c = 47)
def okN (c : Int) : Bool := decide ((65 ≤ c ∧ c ≤ 90) ∨ (97 ≤ c ∧ c ≤ 122) ∨ (48 ≤ c ∧ c ≤ 57) ∨ c = 46 ∨ c = 95 ∨ c = 45)
theorem ite_both {α : Type} {c : Prop} [Decidable c] {a b r : α} (h1 : c → a = r) (h2 : ¬c → b = r) : (if c then a else b) = r := by
 by_cases h : c
 · rw [if_pos h]; exact h1 h
 rw [if_neg h]; exact h2 h
theorem clsW (c : Int) (h : okW c = true) : (ClsF c true true true false true false false false false false true true true true) ∨ (ClsF c false true true true true false false false false false true true true true) ∨ (ClsF c false true false true true true false false false false true true true true) ∨ (ClsF c false true false true false true true false false false false true true true) ∨ (ClsF c false true true false true false false true false false true false true true) ∨ (ClsF c false true false true false true false false true false true true false true) ∨ (ClsF c false true false true false true false false false true true true true false) := by
 unfold okW at h
 have hd := of_decide_eq_true h
 rcases hd with h1 | h1 | h1 | h1 | h1 | h1 | h1
 · exact .inl (by unfold ClsF; refine ⟨?_, ?_, ?_, ?_, ?_, ?_, ?_, ?_, ?_, ?_, ?_, ?_, ?_, ?_⟩ <;> simp <;> omega)
 · exact .inr (.inl (by unfold ClsF; refine ⟨?_, ?_, ?_, ?_, ?_, ?_, ?_, ?_, ?_, ?_, ?_, ?_, ?_, ?_⟩ <;> simp <;> omega))
 · exact .inr (.inr (.inl (by unfold ClsF; refine ⟨?_, ?_, ?_, ?_, ?_, ?_, ?_, ?_, ?_, ?_, ?_, ?_, ?_, ?_⟩ <;> simp <;> omega)))
 · exact .inr (.inr (.inr (.inl (by unfold ClsF; refine ⟨?_, ?_, ?_, ?_, ?_, ?_, ?_, ?_, ?_, ?_, ?_, ?_, ?_, ?_⟩ <;> simp <;> omega))))
 · exact .inr (.inr (.inr (.inr (.inl (by unfold ClsF; refine ⟨?_, ?_, ?_, ?_, ?_, ?_, ?_, ?_, ?_, ?_, ?_, ?_, ?_, ?_⟩ <;> simp <;> omega)))))
 · exact .inr (.inr (.inr (.inr (.inr (.inl (by unfold ClsF; refine ⟨?_, ?_, ?_, ?_, ?_, ?_, ?_, ?_, ?_, ?_, ?_, ?_, ?_, ?_⟩ <;> simp <;> omega))))))
 · exact .inr (.inr (.inr (.inr (.inr (.inr (by unfold ClsF; refine ⟨?_, ?_, ?_, ?_, ?_, ?_, ?_, ?_, ?_, ?_, ?_, ?_, ?_, ?_⟩ <;> simp <;> omega))))))
theorem clsW' (c : Int) (h : ¬ okW c = true) : (ClsF c false true false true false true false false false false true true true true) ∨ (ClsF c false true false true true false false false false false true true true true) ∨ (ClsF c false true true false true false false false false false true true true true) ∨ (ClsF c false true true false true false false false false false true true true true) ∨ (ClsF c true false true false true false false false false false true true true true) := by
 unfold okW at h
 have h2 := of_decide_eq_false (Bool.eq_false_iff.2 h)
 have hd : c < 45 ∨ (58 ≤ c ∧ c ≤ 64) ∨ (91 ≤ c ∧ c ≤ 94) ∨ c = 96 ∨ 122 < c := by omega
 rcases hd with h1 | h1 | h1 | h1 | h1
 · exact .inl (by unfold ClsF; refine ⟨?_, ?_, ?_, ?_, ?_, ?_, ?_, ?_, ?_, ?_, ?_, ?_, ?_, ?_⟩ <;> simp <;> omega)
 · exact .inr (.inl (by unfold ClsF; refine ⟨?_, ?_, ?_, ?_, ?_, ?_, ?_, ?_, ?_, ?_, ?_, ?_, ?_, ?_⟩ <;> simp <;> omega))
 · exact .inr (.inr (.inl (by unfold ClsF; refine ⟨?_, ?_, ?_, ?_, ?_, ?_, ?_, ?_, ?_, ?_, ?_, ?_, ?_, ?_⟩ <;> simp <;> omega)))
 · exact .inr (.inr (.inr (.inl (by unfold ClsF; refine ⟨?_, ?_, ?_, ?_, ?_, ?_, ?_, ?_, ?_, ?_, ?_, ?_, ?_, ?_⟩ <;> simp <;> omega))))
 · exact .inr (.inr (.inr (.inr (by unfold ClsF; refine ⟨?_, ?_, ?_, ?_, ?_, ?_, ?_, ?_, ?_, ?_, ?_, ?_, ?_, ?_⟩ <;> simp <;> omega))))
set_option maxHeartbeats 4000000 in
theorem word_go (k : Nat) (s : ByteArray) (m : Int) (x : Int) (hx : x < (s.size : Int)) (h0 : 0 ≤ x) : majordomoref05_Word.l0 (k + 1) s m x = if okW (bt s x) = true then majordomoref05_Word.l0 k s m (wrap64 (x + 1)) else some false := by
 rw [majordomoref05_Word.l0, if_pos hx, if_pos h0]
 generalize majordomoref05_Word.l0 k s m (wrap64 (x + 1)) = X
 generalize bt s x = c
 by_cases hc : okW c = true
 · rw [if_pos hc]
   unfold okW at hc
   have hd := of_decide_eq_true hc
   repeat' (first | rfl | (refine ite_both ?_ ?_) | (intro _))
   all_goals omega
 rw [if_neg hc]
 unfold okW at hc
 have hd := of_decide_eq_false (Bool.eq_false_iff.2 hc)
 repeat' (first | rfl | (refine ite_both ?_ ?_) | (intro _))
 all_goals omega
set_option maxHeartbeats 8000000 in
set_option maxRecDepth 100000 in
theorem majordomoref05_Word.calls (k : Nat) (a0 : ByteArray) (a1 : Int) (r : Bool) (w : World) (h : majordomoref05_Word.f k a0 a1 = some r) :
 Calls Tryz.prog 44 #[.string a0, .int .i64 a1] w fun e w' => e = .returned (.bool r) ∧ Drawn0 w w' := by
 have H : (majordomoref05_Word.l0 k a0 a1 0) = some r := h
 clear h
 have H' := As.mk H
 clear H
 go_enter Tryz.func44, Tryz.ntmps44
 go_wp2
 go_loopg [5] k (fun kq v5 w' => ∃ (x5_1 : Int), v5 = .int .i64 x5_1 ∧ As (majordomoref05_Word.l0 kq a0 a1 x5_1 = some r) ∧ As (kq ≤ k) ∧ Drawn0 w w')
 case atStart => exact ⟨(0), (by first | rfl | (simp; done) | (simp [*]; done)), H', ⟨Nat.le_refl _⟩, by repeat (first | exact Drawn0.refl _ | apply Drawn0.step)⟩
 case round =>
  clear H'
  try clear p2
  obtain ⟨x5_1, rfl, HA, HK1, ⟨m1, rfl⟩⟩ := hrel
  cases gk with
  | zero => exact absurd HA.out (by simp [majordomoref05_Word.l0])
  | succ k1 =>
   have H := HA.out
   simp only [majordomoref05_Word.l0] at H
   by_cases c3 : x5_1 < (a0.size : Int)
   rotate_left
   · rw [if_neg c3] at H
     have c3b0 : decide (x5_1 < (a0.size : Int)) = false := decide_eq_false c3
     clear c3
     obtain rfl := Option.some.inj H
     go_wp2
     go_ret
     exact ⟨by first | rfl | (simp; done) | (simp [*]; done), by repeat (first | exact Drawn0.refl _ | apply Drawn0.step)⟩
   rw [if_pos c3] at H
   have c3b0 : decide (x5_1 < (a0.size : Int)) = true := decide_eq_true c3
   clear c3
   by_cases c4 : 0 ≤ x5_1
   rotate_left
   · rw [if_neg c4] at H
     exact absurd H (by simp)
   clear H
   have H := (word_go k1 a0 a1 x5_1 (of_decide_eq_true c3b0) c4).symm.trans HA.out
   clear HA
   have c4b0 : decide (0 ≤ x5_1) = true := decide_eq_true c4
   clear c4
   have p5 : 0 ≤ (x5_1 : Int) := of_decide_eq_true c4b0
   have q5 : x5_1 < (a0.size : Int) := of_decide_eq_true c3b0
   have hx5 := bt_at a0 x5_1
   replace p5 := eq_true p5
   replace q5 := eq_true q5
   by_cases o : okW (bt a0 x5_1) = true
   rotate_left
   · rw [if_neg o] at H
     obtain rfl := Option.some.inj H
     have C := clsW' _ o
     clear o
     rcases C with C | C | C | C | C
     all_goals
      obtain ⟨f1, f2, f3, f4, f5, f6, f7, f8, f9, f10, f11, f12, f13, f14⟩ := C
      go_wp2
      go_ret
      exact ⟨by first | rfl | (simp; done) | (simp [*]; done), by repeat (first | exact Drawn0.refl _ | apply Drawn0.step)⟩
   rw [if_pos o] at H
   have H' := As.mk H
   clear H
   have C := clsW _ o
   clear o
   rcases C with C | C | C | C | C | C | C
   all_goals
    obtain ⟨f1, f2, f3, f4, f5, f6, f7, f8, f9, f10, f11, f12, f13, f14⟩ := C
    go_wp2
    go_roundg k1
    case measure => have := HK1.out; omega
    case rel => exact ⟨(wrap64 (x5_1 + 1)), (by first | rfl | (simp; done) | (simp [*]; done)), H', ⟨by have := HK1.out; omega⟩, by repeat (first | exact Drawn0.refl _ | apply Drawn0.step)⟩
end Go.Proofs.YtkgafkoopefghaaGreatDoor.PA
end
section
namespace Go.Proofs.YtkgafkoopefghaaGreatDoor.PA
open Go.RowKit Go.Proofs.YtkgafkoopefghaaGreatDoorW.PrintWords Go.Proofs.YtkgafkoopefghaaGreatDoorW.PrintLast Go.Proofs.YtkgafkoopefghaaGreatDoorW.PrintMore
open Go.Proofs.YtkgafkoopefghaaGreatDoor.Hk
attribute [local go_sem] max2_int min2_int max_two min_two max_three min_three max_four min_four
set_option linter.unusedVariables false
set_option linter.unusedSimpArgs false
def majordomoref06_key.f (k : Nat) (a0 : ByteArray) : Option (Bool) := if a0.toList = ([] : List UInt8) then (some false) else ((majordomoref05_Word.f k a0 32).bind fun t327 => (some t327))
set_option maxHeartbeats 8000000 in
set_option maxRecDepth 100000 in
theorem majordomoref06_key.calls (k : Nat) (a0 : ByteArray) (r : Bool) (w : World) (h : majordomoref06_key.f k a0 = some r) :
 Calls Tryz.prog 66 #[.string a0] w fun e w' => e = .returned (.bool r) ∧ Drawn0 w w' := by
 have H : (if a0.toList = ([] : List UInt8) then (some false) else ((majordomoref05_Word.f k a0 32).bind fun t327 => (some t327))) = some r := h
 clear h
 by_cases c2 : a0.toList = ([] : List UInt8)
 · rw [if_pos c2] at H
   have c2b0 : (a0.toList == ([] : List UInt8)) = true := beq_iff_eq.mpr c2
   have c2b1 : (a0.toList != ([] : List UInt8)) = false := bne_eq_false_iff_eq.mpr c2
   clear c2
   obtain rfl := Option.some.inj H
   go_enter Tryz.func66, Tryz.ntmps66
   go_wp2
   go_ret
   exact ⟨by first | rfl | (simp; done) | (simp [*]; done), by repeat (first | exact Drawn0.refl _ | apply Drawn0.step)⟩
 rw [if_neg c2] at H
 have c2b0 : (a0.toList == ([] : List UInt8)) = false := beq_eq_false_iff_ne.mpr c2
 have c2b1 : (a0.toList != ([] : List UInt8)) = true := bne_iff_ne.mpr c2
 replace H := Option.bind_eq_some_iff.mp H
 obtain ⟨t327, A30, H⟩ := H
 replace H : (some t327) = some r := H
 have A3 := As.mk A30
 clear A30
 obtain rfl := Option.some.inj H
 go_enter Tryz.func66, Tryz.ntmps66
 go_wp2_with (first | (go_at_call 44; (with_reducible refine (majordomoref05_Word.calls k a0 32 t327 _ A3.out).mono ?_); rintro e w' ⟨rfl, ⟨nd, rfl⟩⟩))
 go_ret
 exact ⟨by first | rfl | (simp; done) | (simp [*]; done), by repeat (first | exact Drawn0.refl _ | apply Drawn0.step)⟩
def majordomoref03_Name.l0 : Nat → ByteArray → Int → Option (Bool)
 | 0, _, _ => none
 | k + 1, x0, x3 => if x3 < (x0.size : Int) then (if 0 ≤ x3 then (if (bt x0 x3) ≥ 65 then (if (bt x0 x3) ≤ 90 then (majordomoref03_Name.l0 k x0 (wrap64 (x3 + 1))) else (if (bt x0 x3) ≥ 97 then (if (bt x0 x3) ≤ 122 then (majordomoref03_Name.l0 k x0 (wrap64 (x3 + 1))) else (if (bt x0 x3) ≥ 48 then (if (bt x0 x3) ≤ 57 then (majordomoref03_Name.l0 k x0 (wrap64 (x3 + 1))) else (if (bt x0 x3) = 46 then (majordomoref03_Name.l0 k x0 (wrap64 (x3 + 1))) else (if (bt x0 x3) = 95 then (majordomoref03_Name.l0 k x0 (wrap64 (x3 + 1))) else (if ((bt x0 x3) = 45) then (majordomoref03_Name.l0 k x0 (wrap64 (x3 + 1))) else (some false))))) else (if (bt x0 x3) = 46 then (majordomoref03_Name.l0 k x0 (wrap64 (x3 + 1))) else (if (bt x0 x3) = 95 then (majordomoref03_Name.l0 k x0 (wrap64 (x3 + 1))) else (if ((bt x0 x3) = 45) then (majordomoref03_Name.l0 k x0 (wrap64 (x3 + 1))) else (some false)))))) else (if (bt x0 x3) ≥ 48 then (if (bt x0 x3) ≤ 57 then (majordomoref03_Name.l0 k x0 (wrap64 (x3 + 1))) else (if (bt x0 x3) = 46 then (majordomoref03_Name.l0 k x0 (wrap64 (x3 + 1))) else (if (bt x0 x3) = 95 then (majordomoref03_Name.l0 k x0 (wrap64 (x3 + 1))) else (if ((bt x0 x3) = 45) then (majordomoref03_Name.l0 k x0 (wrap64 (x3 + 1))) else (some false))))) else (if (bt x0 x3) = 46 then (majordomoref03_Name.l0 k x0 (wrap64 (x3 + 1))) else (if (bt x0 x3) = 95 then (majordomoref03_Name.l0 k x0 (wrap64 (x3 + 1))) else (if ((bt x0 x3) = 45) then (majordomoref03_Name.l0 k x0 (wrap64 (x3 + 1))) else (some false))))))) else (if (bt x0 x3) ≥ 97 then (if (bt x0 x3) ≤ 122 then (majordomoref03_Name.l0 k x0 (wrap64 (x3 + 1))) else (if (bt x0 x3) ≥ 48 then (if (bt x0 x3) ≤ 57 then (majordomoref03_Name.l0 k x0 (wrap64 (x3 + 1))) else (if (bt x0 x3) = 46 then (majordomoref03_Name.l0 k x0 (wrap64 (x3 + 1))) else (if (bt x0 x3) = 95 then (majordomoref03_Name.l0 k x0 (wrap64 (x3 + 1))) else (if ((bt x0 x3) = 45) then (majordomoref03_Name.l0 k x0 (wrap64 (x3 + 1))) else (some false))))) else (if (bt x0 x3) = 46 then (majordomoref03_Name.l0 k x0 (wrap64 (x3 + 1))) else (if (bt x0 x3) = 95 then (majordomoref03_Name.l0 k x0 (wrap64 (x3 + 1))) else (if ((bt x0 x3) = 45) then (majordomoref03_Name.l0 k x0 (wrap64 (x3 + 1))) else (some false)))))) else (if (bt x0 x3) ≥ 48 then (if (bt x0 x3) ≤ 57 then (majordomoref03_Name.l0 k x0 (wrap64 (x3 + 1))) else (if (bt x0 x3) = 46 then (majordomoref03_Name.l0 k x0 (wrap64 (x3 + 1))) else (if (bt x0 x3) = 95 then (majordomoref03_Name.l0 k x0 (wrap64 (x3 + 1))) else (if ((bt x0 x3) = 45) then (majordomoref03_Name.l0 k x0 (wrap64 (x3 + 1))) else (some false))))) else (if (bt x0 x3) = 46 then (majordomoref03_Name.l0 k x0 (wrap64 (x3 + 1))) else (if (bt x0 x3) = 95 then (majordomoref03_Name.l0 k x0 (wrap64 (x3 + 1))) else (if ((bt x0 x3) = 45) then (majordomoref03_Name.l0 k x0 (wrap64 (x3 + 1))) else (some false))))))) else (none)) else (if (x0.size : Int) ≥ 1 then (if (x0.size : Int) ≤ 28 then (if x0.toList = ([46] : List UInt8) then (some false) else (some (x0.toList != ([46, 46] : List UInt8)))) else (some false)) else (some false))
def majordomoref03_Name.f (k : Nat) (a0 : ByteArray) : Option (Bool) := majordomoref03_Name.l0 k a0 0
theorem clsN (c : Int) (h : okN c = true) : (ClsF c false true true true true false false false false false true true true true) ∨ (ClsF c true true true false true false false false false false true true true true) ∨ (ClsF c false true false true true true false false false false true true true true) ∨ (ClsF c false true false true false true true false false false false true true true) ∨ (ClsF c false true true false true false false true false false true false true true) ∨ (ClsF c false true false true false true false false true false true true false true) := by
 unfold okN at h
 have hd := of_decide_eq_true h
 rcases hd with h1 | h1 | h1 | h1 | h1 | h1
 · exact .inl (by unfold ClsF; refine ⟨?_, ?_, ?_, ?_, ?_, ?_, ?_, ?_, ?_, ?_, ?_, ?_, ?_, ?_⟩ <;> simp <;> omega)
 · exact .inr (.inl (by unfold ClsF; refine ⟨?_, ?_, ?_, ?_, ?_, ?_, ?_, ?_, ?_, ?_, ?_, ?_, ?_, ?_⟩ <;> simp <;> omega))
 · exact .inr (.inr (.inl (by unfold ClsF; refine ⟨?_, ?_, ?_, ?_, ?_, ?_, ?_, ?_, ?_, ?_, ?_, ?_, ?_, ?_⟩ <;> simp <;> omega)))
 · exact .inr (.inr (.inr (.inl (by unfold ClsF; refine ⟨?_, ?_, ?_, ?_, ?_, ?_, ?_, ?_, ?_, ?_, ?_, ?_, ?_, ?_⟩ <;> simp <;> omega))))
 · exact .inr (.inr (.inr (.inr (.inl (by unfold ClsF; refine ⟨?_, ?_, ?_, ?_, ?_, ?_, ?_, ?_, ?_, ?_, ?_, ?_, ?_, ?_⟩ <;> simp <;> omega)))))
 · exact .inr (.inr (.inr (.inr (.inr (by unfold ClsF; refine ⟨?_, ?_, ?_, ?_, ?_, ?_, ?_, ?_, ?_, ?_, ?_, ?_, ?_, ?_⟩ <;> simp <;> omega)))))
theorem clsN' (c : Int) (h : ¬ okN c = true) : (ClsF c false true false true false true false false false false true true true true) ∨ (ClsF c false true false true true false false false false false true true true true) ∨ (ClsF c false true true false true false false false false false true true true true) ∨ (ClsF c false true true false true false false false false false true true true true) ∨ (ClsF c true false true false true false false false false false true true true true) ∨ (ClsF c false true false true false true false false false true true true true false) := by
 unfold okN at h
 have h2 := of_decide_eq_false (Bool.eq_false_iff.2 h)
 have hd : c < 45 ∨ (58 ≤ c ∧ c ≤ 64) ∨ (91 ≤ c ∧ c ≤ 94) ∨ c = 96 ∨ 122 < c ∨ c = 47 := by omega
 rcases hd with h1 | h1 | h1 | h1 | h1 | h1
 · exact .inl (by unfold ClsF; refine ⟨?_, ?_, ?_, ?_, ?_, ?_, ?_, ?_, ?_, ?_, ?_, ?_, ?_, ?_⟩ <;> simp <;> omega)
 · exact .inr (.inl (by unfold ClsF; refine ⟨?_, ?_, ?_, ?_, ?_, ?_, ?_, ?_, ?_, ?_, ?_, ?_, ?_, ?_⟩ <;> simp <;> omega))
 · exact .inr (.inr (.inl (by unfold ClsF; refine ⟨?_, ?_, ?_, ?_, ?_, ?_, ?_, ?_, ?_, ?_, ?_, ?_, ?_, ?_⟩ <;> simp <;> omega)))
 · exact .inr (.inr (.inr (.inl (by unfold ClsF; refine ⟨?_, ?_, ?_, ?_, ?_, ?_, ?_, ?_, ?_, ?_, ?_, ?_, ?_, ?_⟩ <;> simp <;> omega))))
 · exact .inr (.inr (.inr (.inr (.inl (by unfold ClsF; refine ⟨?_, ?_, ?_, ?_, ?_, ?_, ?_, ?_, ?_, ?_, ?_, ?_, ?_, ?_⟩ <;> simp <;> omega)))))
 · exact .inr (.inr (.inr (.inr (.inr (by unfold ClsF; refine ⟨?_, ?_, ?_, ?_, ?_, ?_, ?_, ?_, ?_, ?_, ?_, ?_, ?_, ?_⟩ <;> simp <;> omega)))))
set_option maxHeartbeats 4000000 in
theorem name_go (k : Nat) (s : ByteArray) (x : Int) (hx : x < (s.size : Int)) (h0 : 0 ≤ x) : majordomoref03_Name.l0 (k + 1) s x = if okN (bt s x) = true then majordomoref03_Name.l0 k s (wrap64 (x + 1)) else some false := by
 rw [majordomoref03_Name.l0, if_pos hx, if_pos h0]
 generalize majordomoref03_Name.l0 k s (wrap64 (x + 1)) = X
 generalize bt s x = c
 by_cases hc : okN c = true
 · rw [if_pos hc]
   unfold okN at hc
   have hd := of_decide_eq_true hc
   repeat' (first | rfl | (refine ite_both ?_ ?_) | (intro _))
   all_goals omega
 rw [if_neg hc]
 unfold okN at hc
 have hd := of_decide_eq_false (Bool.eq_false_iff.2 hc)
 repeat' (first | rfl | (refine ite_both ?_ ?_) | (intro _))
 all_goals omega
set_option maxHeartbeats 8000000 in
set_option maxRecDepth 100000 in
theorem majordomoref03_Name.calls (k : Nat) (a0 : ByteArray) (r : Bool) (w : World) (h : majordomoref03_Name.f k a0 = some r) :
 Calls Tryz.prog 100 #[.string a0] w fun e w' => e = .returned (.bool r) ∧ Drawn0 w w' := by
 have H : (majordomoref03_Name.l0 k a0 0) = some r := h
 clear h
 have H' := As.mk H
 clear H
 go_enter Tryz.func100, Tryz.ntmps100
 go_wp2
 go_loopg [3] k (fun kq v3 w' => ∃ (x3_1 : Int), v3 = .int .i64 x3_1 ∧ As (majordomoref03_Name.l0 kq a0 x3_1 = some r) ∧ As (kq ≤ k) ∧ Drawn0 w w')
 case atStart => exact ⟨(0), (by first | rfl | (simp; done) | (simp [*]; done)), H', ⟨Nat.le_refl _⟩, by repeat (first | exact Drawn0.refl _ | apply Drawn0.step)⟩
 case round =>
  clear H'
  try clear c1
  obtain ⟨x3_1, rfl, HA, HK1, ⟨m1, rfl⟩⟩ := hrel
  cases gk with
  | zero => exact absurd HA.out (by simp [majordomoref03_Name.l0])
  | succ k1 =>
   have H := HA.out
   simp only [majordomoref03_Name.l0] at H
   by_cases c2 : x3_1 < (a0.size : Int)
   · rw [if_pos c2] at H
     have c2b0 : decide (x3_1 < (a0.size : Int)) = true := decide_eq_true c2
     clear c2
     by_cases c3 : 0 ≤ x3_1
     rotate_left
     · rw [if_neg c3] at H
       exact absurd H (by simp)
     clear H
     have H := (name_go k1 a0 x3_1 (of_decide_eq_true c2b0) c3).symm.trans HA.out
     clear HA
     have c3b0 : decide (0 ≤ x3_1) = true := decide_eq_true c3
     clear c3
     have p4 : 0 ≤ (x3_1 : Int) := of_decide_eq_true c3b0
     have q4 : x3_1 < (a0.size : Int) := of_decide_eq_true c2b0
     have hx4 := bt_at a0 x3_1
     replace p4 := eq_true p4
     replace q4 := eq_true q4
     by_cases o : okN (bt a0 x3_1) = true
     rotate_left
     · rw [if_neg o] at H
       obtain rfl := Option.some.inj H
       have C := clsN' _ o
       clear o
       rcases C with C | C | C | C | C | C
       all_goals
        obtain ⟨f1, f2, f3, f4, f5, f6, f7, f8, f9, f10, f11, f12, f13, f14⟩ := C
        go_wp2
        go_ret
        exact ⟨by first | rfl | (simp; done) | (simp [*]; done), by repeat (first | exact Drawn0.refl _ | apply Drawn0.step)⟩
     rw [if_pos o] at H
     have H' := As.mk H
     clear H
     have C := clsN _ o
     clear o
     rcases C with C | C | C | C | C | C
     all_goals
      obtain ⟨f1, f2, f3, f4, f5, f6, f7, f8, f9, f10, f11, f12, f13, f14⟩ := C
      go_wp2
      go_roundg k1
      case measure => have := HK1.out; omega
      case rel => exact ⟨(wrap64 (x3_1 + 1)), (by first | rfl | (simp; done) | (simp [*]; done)), H', ⟨by have := HK1.out; omega⟩, by repeat (first | exact Drawn0.refl _ | apply Drawn0.step)⟩
   rw [if_neg c2] at H
   have c2b0 : decide (x3_1 < (a0.size : Int)) = false := decide_eq_false c2
   clear c2
   by_cases c43 : (a0.size : Int) ≥ 1
   rotate_left
   · rw [if_neg c43] at H
     have c43b0 : decide (1 ≤ (a0.size : Int)) = false := decide_eq_false c43
     have c43b1 : decide (1 ≤ a0.size) = false := decide_eq_false (by omega)
     clear c43
     obtain rfl := Option.some.inj H
     go_wp2
     go_ret
     exact ⟨by first | rfl | (simp; done) | (simp [*]; done), by repeat (first | exact Drawn0.refl _ | apply Drawn0.step)⟩
   rw [if_pos c43] at H
   have c43b0 : decide (1 ≤ (a0.size : Int)) = true := decide_eq_true c43
   have c43b1 : decide (1 ≤ a0.size) = true := decide_eq_true (by omega)
   clear c43
   by_cases c44 : (a0.size : Int) ≤ 28
   rotate_left
   · rw [if_neg c44] at H
     have c44b0 : decide ((a0.size : Int) ≤ 28) = false := decide_eq_false c44
     have c44b1 : decide (a0.size ≤ 28) = false := decide_eq_false (by omega)
     clear c44
     obtain rfl := Option.some.inj H
     go_wp2
     go_ret
     exact ⟨by first | rfl | (simp; done) | (simp [*]; done), by repeat (first | exact Drawn0.refl _ | apply Drawn0.step)⟩
   rw [if_pos c44] at H
   have c44b0 : decide ((a0.size : Int) ≤ 28) = true := decide_eq_true c44
   have c44b1 : decide (a0.size ≤ 28) = true := decide_eq_true (by omega)
   clear c44
   by_cases c45 : a0.toList = ([46] : List UInt8)
   rotate_left
   · rw [if_neg c45] at H
     have c45b0 : (a0.toList == ([46] : List UInt8)) = false := beq_eq_false_iff_ne.mpr c45
     have c45b1 : (a0.toList != ([46] : List UInt8)) = true := bne_iff_ne.mpr c45
     obtain rfl := Option.some.inj H
     go_wp2
     go_ret
     exact ⟨by first | rfl | (simp; done) | (simp [*]; done), by repeat (first | exact Drawn0.refl _ | apply Drawn0.step)⟩
   rw [if_pos c45] at H
   have c45b0 : (a0.toList == ([46] : List UInt8)) = true := beq_iff_eq.mpr c45
   have c45b1 : (a0.toList != ([46] : List UInt8)) = false := bne_eq_false_iff_eq.mpr c45
   clear c45
   obtain rfl := Option.some.inj H
   go_wp2
   go_ret
   exact ⟨by first | rfl | (simp; done) | (simp [*]; done), by repeat (first | exact Drawn0.refl _ | apply Drawn0.step)⟩
end Go.Proofs.YtkgafkoopefghaaGreatDoor.PA
end
section
namespace Go.Proofs.YtkgafkoopefghaaGreatDoor.PA
open Go.RowKit Go.Proofs.YtkgafkoopefghaaGreatDoorW.PrintWords Go.Proofs.YtkgafkoopefghaaGreatDoorW.PrintLast Go.Proofs.YtkgafkoopefghaaGreatDoorW.PrintMore
open Go.Proofs.YtkgafkoopefghaaGreatDoor.Hk
attribute [local go_sem] max2_int min2_int max_two min_two max_three min_three max_four min_four
set_option linter.unusedVariables false
set_option linter.unusedSimpArgs false
mutual
def majordomoref03_Path.j0 : Nat → ByteArray → Bool → Option (List ByteArray × Int)
 | 0, _, _ => none
 | k + 1, x0, x21 => if x21 = true then (some (([] : List ByteArray), 40)) else (majordomoref03_Path.l0 k x0 ([] : List ByteArray) 1 1)
def majordomoref03_Path.l0 : Nat → ByteArray → List ByteArray → Int → Int → Option (List ByteArray × Int)
 | 0, _, _, _, _ => none
 | k + 1, x0, x4, x5, x6 => if x6 ≤ (x0.size : Int) then (if x6 = (x0.size : Int) then (majordomoref03_Path.j2 k x0 x4 x5 x6 true) else (if 0 ≤ x6 then (if x6 < (x0.size : Int) then (majordomoref03_Path.j2 k x0 x4 x5 x6 ((bt x0 x6) == 47)) else (none)) else (none))) else (if (x4.length : Int) > 8 then (some (([] : List ByteArray), 40)) else (some (x4, 0)))
def majordomoref03_Path.j2 : Nat → ByteArray → List ByteArray → Int → Int → Bool → Option (List ByteArray × Int)
 | 0, _, _, _, _, _ => none
 | k + 1, x0, x4, x5, x6, x37 => if x37 = true then (if 0 ≤ x5 then (if x5 ≤ x6 then (if x6 ≤ (x0.size : Int) then ((majordomoref03_Name.f k (x0.extract (x5 : Int).toNat (x6 : Int).toNat)).bind fun t328 => (if t328 = true then (if x4.length < 8796093022208 then (majordomoref03_Path.l0 k x0 (x4 ++ [x0.extract (x5 : Int).toNat (x6 : Int).toNat]) (wrap64 (x6 + 1)) (wrap64 (x6 + 1))) else (none)) else (some (([] : List ByteArray), 40)))) else (none)) else (none)) else (none)) else (majordomoref03_Path.l0 k x0 x4 x5 (wrap64 (x6 + 1)))
end
def majordomoref03_Path.f (k : Nat) (a0 : ByteArray) : Option (List ByteArray × Int) := if a0.toList = ([47] : List UInt8) then (some (([] : List ByteArray), 0)) else (if (a0.size : Int) < 2 then (majordomoref03_Path.j0 k a0 true) else (if (a0.size : Int) > 120 then (majordomoref03_Path.j0 k a0 true) else (if 0 < (a0.size : Int) then (majordomoref03_Path.j0 k a0 ((bt a0 0) != 47)) else (none))))
set_option maxHeartbeats 8000000 in
set_option maxRecDepth 100000 in
theorem majordomoref03_Path.calls (k : Nat) (a0 : ByteArray) (r1 : List ByteArray) (r2 : Int) (w : World) (h : majordomoref03_Path.f k a0 = some (r1, r2)) :
 Calls Tryz.prog 67 #[.string a0] w fun e w' => ∃ v0_ : Value, e = .returned (.tuple #[v0_, .int .i64 r2]) ∧ Kd.R Kd.string 9 w' w.heap.size (fun _ => True) v0_ r1 ∧ Below w.heap.size w w' := by
 have HB := As.mk (Below.refl w.heap.size w)
 have H : (if a0.toList = ([47] : List UInt8) then (some (([] : List ByteArray), 0)) else (if (a0.size : Int) < 2 then (majordomoref03_Path.j0 k a0 true) else (if (a0.size : Int) > 120 then (majordomoref03_Path.j0 k a0 true) else (if 0 < (a0.size : Int) then (majordomoref03_Path.j0 k a0 ((bt a0 0) != 47)) else (none))))) = some (r1, r2) := h
 clear h
 by_cases c2 : a0.toList = ([47] : List UInt8)
 · rw [if_pos c2] at H
   have c2b0 : (a0.toList == ([47] : List UInt8)) = true := beq_iff_eq.mpr c2
   have c2b1 : (a0.toList != ([47] : List UInt8)) = false := bne_eq_false_iff_eq.mpr c2
   clear c2
   simp only [Option.some.injEq, Prod.mk.injEq] at H
   obtain ⟨rfl, rfl⟩ := H
   go_enter Tryz.func67, Tryz.ntmps67
   go_wp2
   go_ret2
   exact ⟨_, by first | rfl | (simp [errW_none, errW_some] <;> rfl) | (simp [*, errW_none, errW_some] <;> rfl), by first | exact Kd.R_nil _ _ _ _ _ | exact Kd.N_nil _ _ _ _ _ | exact Kd.V_nil _ _ _ _ _ | exact Kd.Q_nil _ _ _ _ _ | exact Kd.S_nil _ _ _ _ _, by repeat (first | (with_reducible first | exact HB.out | apply bA | apply bN | apply bD) | exact HB.out)⟩
 rw [if_neg c2] at H
 have c2b0 : (a0.toList == ([47] : List UInt8)) = false := beq_eq_false_iff_ne.mpr c2
 have c2b1 : (a0.toList != ([47] : List UInt8)) = true := bne_iff_ne.mpr c2
 have HC3 := As.mk H
 clear H
 go_enter Tryz.func67, Tryz.ntmps67
 go_upto_region 3 with (fail)
 go_cut [21] (fun v21 wc => ∃ (kq : Nat) (x21_2 : Bool), v21 = .bool x21_2 ∧ As (majordomoref03_Path.j0 kq a0 x21_2 = some (r1, r2)) ∧ As (kq ≤ k) ∧ As (Below w.heap.size w wc))
 case first =>
  have H := HC3.out
  clear HC3
  by_cases c4 : (a0.size : Int) < 2
  · rw [if_pos c4] at H
    have c4b0 : decide ((a0.size : Int) < 2) = true := decide_eq_true c4
    have c4b1 : decide (a0.size < 2) = true := decide_eq_true (by omega)
    clear c4
    (first | rw [c4b0] | (simp only [i64_w, i32_w]; rw [c4b0]) | skip)
    have H' := As.mk H
    clear H
    go_wp2
    go_meet
    case rel => exact ⟨_, (true), (by first | rfl | (simp; done) | (simp [*]; done)), H', ⟨by first | omega | exact Nat.le_refl _⟩, ⟨by repeat (first | (with_reducible first | exact HB.out | apply bA | apply bN | apply bD) | exact HB.out)⟩⟩
  rw [if_neg c4] at H
  have c4b0 : decide ((a0.size : Int) < 2) = false := decide_eq_false c4
  have c4b1 : decide (a0.size < 2) = false := decide_eq_false (by omega)
  clear c4
  (first | rw [c4b0] | (simp only [i64_w, i32_w]; rw [c4b0]) | skip)
  by_cases c5 : (a0.size : Int) > 120
  · rw [if_pos c5] at H
    have c5b0 : decide (120 < (a0.size : Int)) = true := decide_eq_true c5
    have c5b1 : decide (120 < a0.size) = true := decide_eq_true (by omega)
    clear c5
    have H' := As.mk H
    clear H
    go_wp2
    go_meet
    case rel => exact ⟨_, (true), (by first | rfl | (simp; done) | (simp [*]; done)), H', ⟨by first | omega | exact Nat.le_refl _⟩, ⟨by repeat (first | (with_reducible first | exact HB.out | apply bA | apply bN | apply bD) | exact HB.out)⟩⟩
  rw [if_neg c5] at H
  have c5b0 : decide (120 < (a0.size : Int)) = false := decide_eq_false c5
  have c5b1 : decide (120 < a0.size) = false := decide_eq_false (by omega)
  clear c5
  by_cases c6 : 0 < (a0.size : Int)
  rotate_left
  · rw [if_neg c6] at H
    exact absurd H (by simp)
  rw [if_pos c6] at H
  have c6b0 : decide (0 < (a0.size : Int)) = true := decide_eq_true c6
  have c6b1 : decide (0 < a0.size) = true := decide_eq_true (by omega)
  clear c6
  have H' := As.mk H
  clear H
  have p7 : 0 ≤ (0 : Int) := (by omega)
  have q7 : 0 < a0.size := (by have : (0 : Int) < (a0.size : Int) := of_decide_eq_true (by first | (with_reducible assumption) | assumption); omega)
  have hx7 : ∀ h : 0 < a0.size, ((a0[0]'h).toNat : Int) = bt a0 0 := bt_at a0 0
  clear p7
  have qi7 : (0 < (a0.size : Int)) = True := eq_true (of_decide_eq_true (by first | (with_reducible assumption) | assumption))
  replace q7 := eq_true q7
  go_wp2
  go_meet
  case rel => exact ⟨_, (((bt a0 0) != 47)), (by first | rfl | (simp; done) | (simp [*]; done)), H', ⟨by first | omega | exact Nat.le_refl _⟩, ⟨by repeat (first | (with_reducible first | exact HB.out | apply bA | apply bN | apply bD) | exact HB.out)⟩⟩
 case rest =>
  clear HC3
  try clear c2
  try clear c2b0
  try clear c2b1
  try clear p2
  try clear c4
  try clear c4b0
  try clear c4b1
  try clear c5
  try clear c5b0
  try clear c5b1
  try clear c6
  try clear c6b0
  try clear c6b1
  try clear p7
  try clear q7
  try clear hx7
  try clear qi7
  try clear p7
  try clear q7
  obtain ⟨kq, x21_2, rfl, HA, HJ2, HB⟩ := hcut
  cases kq with
  | zero => exact absurd HA.out (by simp [majordomoref03_Path.j0])
  | succ kj2 =>
   have H := HA.out
   clear HA
   simp only [majordomoref03_Path.j0] at H
   by_cases c8 : x21_2 = true
   · subst c8
     have H1 : (some (([] : List ByteArray), 40)) = some (r1, r2) := by rw [if_pos rfl] at H; exact H
     clear H
     have H := H1
     clear H1
     simp only [Option.some.injEq, Prod.mk.injEq] at H
     obtain ⟨rfl, rfl⟩ := H
     go_wp2
     go_ret2
     exact ⟨_, by first | rfl | (simp [errW_none, errW_some] <;> rfl) | (simp [*, errW_none, errW_some] <;> rfl), by first | exact Kd.R_nil _ _ _ _ _ | exact Kd.N_nil _ _ _ _ _ | exact Kd.V_nil _ _ _ _ _ | exact Kd.Q_nil _ _ _ _ _ | exact Kd.S_nil _ _ _ _ _, by repeat (first | (with_reducible first | exact HB.out | apply bA | apply bN | apply bD) | exact HB.out)⟩
   replace c8 := Bool.eq_false_iff.mpr c8
   subst c8
   have H1 : (majordomoref03_Path.l0 kj2 a0 ([] : List ByteArray) 1 1) = some (r1, r2) := by rw [if_neg (show ¬ (false = true) by decide)] at H; exact H
   clear H
   have H := H1
   clear H1
   have H' := As.mk H
   clear H
   go_wp2
   go_loopg [4, 5, 6] kj2 (fun kq v4 v5 v6 w' => ∃ (x4_2 : List ByteArray) (x5_2 : Int) (x6_2 : Int), v5 = .int .i64 x5_2 ∧ v6 = .int .i64 x6_2 ∧ As (majordomoref03_Path.l0 kq a0 x4_2 x5_2 x6_2 = some (r1, r2)) ∧ As (kq ≤ kj2) ∧ As (Kd.R Kd.string 9 w' w.heap.size (fun _ => True) v4 x4_2) ∧ As (Below w.heap.size w w'))
   case atStart => exact ⟨(([] : List ByteArray)), (1), (1), (by first | rfl | (simp; done) | (simp [*]; done)), (by first | rfl | (simp; done) | (simp [*]; done)), H', ⟨Nat.le_refl _⟩, ⟨by first | exact Kd.R_nil _ _ _ _ _ | exact Kd.N_nil _ _ _ _ _ | exact Kd.V_nil _ _ _ _ _ | exact Kd.Q_nil _ _ _ _ _ | exact Kd.S_nil _ _ _ _ _⟩, ⟨by repeat (first | (with_reducible first | exact HB.out | apply bA | apply bN | apply bD) | exact HB.out)⟩⟩
   case round =>
    clear H'
    try clear c2
    try clear c2b0
    try clear c2b1
    try clear p2
    try clear c4
    try clear c4b0
    try clear c4b1
    try clear c5
    try clear c5b0
    try clear c5b1
    try clear c6
    try clear c6b0
    try clear c6b1
    try clear p7
    try clear q7
    try clear hx7
    try clear qi7
    try clear c8
    try clear p2
    try clear p7
    try clear q7
    obtain ⟨x4_2, x5_2, x6_2, rfl, rfl, HA, HK2, HO_4, HB⟩ := hrel
    cases gk with
    | zero => exact absurd HA.out (by simp [majordomoref03_Path.l0])
    | succ k2 =>
     have H := HA.out
     clear HA
     simp only [majordomoref03_Path.l0] at H
     by_cases c9 : x6_2 ≤ (a0.size : Int)
     rotate_left
     · rw [if_neg c9] at H
       have c9b0 : decide (x6_2 ≤ (a0.size : Int)) = false := decide_eq_false c9
       clear c9
       by_cases c26 : (x4_2.length : Int) > 8
       rotate_left
       · rw [if_neg c26] at H
         have c26b0 : decide (8 < (x4_2.length : Int)) = false := decide_eq_false c26
         have c26b1 : decide (8 < x4_2.length) = false := decide_eq_false (by omega)
         clear c26
         simp only [Option.some.injEq, Prod.mk.injEq] at H
         obtain ⟨rfl, rfl⟩ := H
         obtain ⟨Ao28, co28, eo28⟩ := Kd.R_slice HO_4.out
         subst eo28
         go_wp2
         go_ret2
         exact ⟨_, by first | rfl | (simp [errW_none, errW_some] <;> rfl) | (simp [*, errW_none, errW_some] <;> rfl), by (with_reducible repeat (first | apply Kd.R_alloc | apply Kd.R_drewN | apply Kd.R_drew)); exact HO_4.out, by repeat (first | (with_reducible first | exact HB.out | apply bA | apply bN | apply bD) | exact HB.out)⟩
       rw [if_pos c26] at H
       have c26b0 : decide (8 < (x4_2.length : Int)) = true := decide_eq_true c26
       have c26b1 : decide (8 < x4_2.length) = true := decide_eq_true (by omega)
       clear c26
       simp only [Option.some.injEq, Prod.mk.injEq] at H
       obtain ⟨rfl, rfl⟩ := H
       obtain ⟨Ao27, co27, eo27⟩ := Kd.R_slice HO_4.out
       subst eo27
       go_wp2
       go_ret2
       exact ⟨_, by first | rfl | (simp [errW_none, errW_some] <;> rfl) | (simp [*, errW_none, errW_some] <;> rfl), by first | exact Kd.R_nil _ _ _ _ _ | exact Kd.N_nil _ _ _ _ _ | exact Kd.V_nil _ _ _ _ _ | exact Kd.Q_nil _ _ _ _ _ | exact Kd.S_nil _ _ _ _ _, by repeat (first | (with_reducible first | exact HB.out | apply bA | apply bN | apply bD) | exact HB.out)⟩
     rw [if_pos c9] at H
     have c9b0 : decide (x6_2 ≤ (a0.size : Int)) = true := decide_eq_true c9
     clear c9
     have HC10 := As.mk H
     clear H
     go_upto_region 10 with (fail)
     go_cut [37] (fun v37 wc => ∃ (kq : Nat) (x37_9 : Bool), v37 = .bool x37_9 ∧ As (majordomoref03_Path.j2 kq a0 x4_2 x5_2 x6_2 x37_9 = some (r1, r2)) ∧ As (kq ≤ k2) ∧ As (Kd.R Kd.string 9 wc w.heap.size (fun _ => True) u4 x4_2) ∧ As (Below w.heap.size w wc))
     case first =>
      have H := HC10.out
      clear HC10
      by_cases c11 : x6_2 = (a0.size : Int)
      · rw [if_pos c11] at H
        have c11b0 : (x6_2 == (a0.size : Int)) = true := beq_iff_eq.mpr c11
        have c11b1 : (x6_2 != (a0.size : Int)) = false := bne_eq_false_iff_eq.mpr c11
        clear c11
        (first | rw [c11b0] | (simp only [i64_w, i32_w]; rw [c11b0]) | skip)
        have H' := As.mk H
        clear H
        go_wp2
        go_meet
        case rel => exact ⟨_, (true), (by first | rfl | (simp; done) | (simp [*]; done)), H', ⟨by have := HJ2.out; have := HK2.out; first | omega | exact Nat.le_refl _⟩, ⟨by (with_reducible repeat (first | apply Kd.R_alloc | apply Kd.R_drewN | apply Kd.R_drew)); exact HO_4.out⟩, ⟨by repeat (first | (with_reducible first | exact HB.out | apply bA | apply bN | apply bD) | exact HB.out)⟩⟩
      rw [if_neg c11] at H
      have c11b0 : (x6_2 == (a0.size : Int)) = false := beq_eq_false_iff_ne.mpr c11
      have c11b1 : (x6_2 != (a0.size : Int)) = true := bne_iff_ne.mpr c11
      (first | rw [c11b0] | (simp only [i64_w, i32_w]; rw [c11b0]) | skip)
      by_cases c12 : 0 ≤ x6_2
      rotate_left
      · rw [if_neg c12] at H
        exact absurd H (by simp)
      rw [if_pos c12] at H
      have c12b0 : decide (0 ≤ x6_2) = true := decide_eq_true c12
      clear c12
      by_cases c13 : x6_2 < (a0.size : Int)
      rotate_left
      · rw [if_neg c13] at H
        exact absurd H (by simp)
      rw [if_pos c13] at H
      have c13b0 : decide (x6_2 < (a0.size : Int)) = true := decide_eq_true c13
      clear c13
      have H' := As.mk H
      clear H
      have p14 : 0 ≤ (x6_2 : Int) := of_decide_eq_true (by first | (with_reducible assumption) | assumption)
      have q14 : x6_2 < (a0.size : Int) := of_decide_eq_true (by first | (with_reducible assumption) | assumption)
      have hx14 := bt_at a0 x6_2
      replace p14 := eq_true p14
      replace q14 := eq_true q14
      go_wp2
      go_meet
      case rel => exact ⟨_, (((bt a0 x6_2) == 47)), (by first | rfl | (simp; done) | (simp [*]; done)), H', ⟨by have := HJ2.out; have := HK2.out; first | omega | exact Nat.le_refl _⟩, ⟨by (with_reducible repeat (first | apply Kd.R_alloc | apply Kd.R_drewN | apply Kd.R_drew)); exact HO_4.out⟩, ⟨by repeat (first | (with_reducible first | exact HB.out | apply bA | apply bN | apply bD) | exact HB.out)⟩⟩
     case rest =>
      clear HC10
      try clear c1
      try clear p1
      try clear q1
      try clear hx1
      try clear c2
      try clear c2b0
      try clear c2b1
      try clear p2
      try clear c4
      try clear c4b0
      try clear c4b1
      try clear c5
      try clear c5b0
      try clear c5b1
      try clear c6
      try clear c6b0
      try clear c6b1
      try clear p7
      try clear q7
      try clear hx7
      try clear qi7
      try clear c8
      try clear c9
      try clear c9b0
      try clear c11
      try clear c11b0
      try clear c11b1
      try clear c12
      try clear c12b0
      try clear c13
      try clear c13b0
      try clear p14
      try clear q14
      try clear hx14
      try clear p14
      try clear p2
      try clear p7
      try clear q14
      try clear q7
      obtain ⟨kq, x37_9, rfl, HA, HJ9, HO_4, HB⟩ := hcut
      cases kq with
      | zero => exact absurd HA.out (by simp [majordomoref03_Path.j2])
      | succ kj9 =>
       have H := HA.out
       clear HA
       simp only [majordomoref03_Path.j2] at H
       by_cases c15 : x37_9 = true
       rotate_left
       · replace c15 := Bool.eq_false_iff.mpr c15
         subst c15
         have H1 : (majordomoref03_Path.l0 kj9 a0 x4_2 x5_2 (wrap64 (x6_2 + 1))) = some (r1, r2) := by rw [if_neg (show ¬ (false = true) by decide)] at H; exact H
         clear H
         have H := H1
         clear H1
         have H' := As.mk H
         clear H
         go_wp2
         go_roundg kj9
         case measure => have := HJ2.out; have := HK2.out; have := HJ9.out; omega
         case rel => exact ⟨(x4_2), (x5_2), (wrap64 (x6_2 + 1)), (by first | rfl | (simp; done) | (simp [*]; done)), (by first | rfl | (simp; done) | (simp [*]; done)), H', ⟨by have := HJ2.out; have := HK2.out; have := HJ9.out; omega⟩, ⟨by (with_reducible repeat (first | apply Kd.R_alloc | apply Kd.R_drewN | apply Kd.R_drew)); exact HO_4.out⟩, ⟨by repeat (first | (with_reducible first | exact HB.out | apply bA | apply bN | apply bD) | exact HB.out)⟩⟩
       subst c15
       have H1 : (if 0 ≤ x5_2 then (if x5_2 ≤ x6_2 then (if x6_2 ≤ (a0.size : Int) then ((majordomoref03_Name.f kj9 (a0.extract (x5_2 : Int).toNat (x6_2 : Int).toNat)).bind fun t328 => (if t328 = true then (if x4_2.length < 8796093022208 then (majordomoref03_Path.l0 kj9 a0 (x4_2 ++ [a0.extract (x5_2 : Int).toNat (x6_2 : Int).toNat]) (wrap64 (x6_2 + 1)) (wrap64 (x6_2 + 1))) else (none)) else (some (([] : List ByteArray), 40)))) else (none)) else (none)) else (none)) = some (r1, r2) := by rw [if_pos rfl] at H; exact H
       clear H
       have H := H1
       clear H1
       by_cases c16 : 0 ≤ x5_2
       rotate_left
       · rw [if_neg c16] at H
         exact absurd H (by simp)
       rw [if_pos c16] at H
       have c16b0 := eq_true c16
       have c16b1 : decide (0 ≤ x5_2) = true := decide_eq_true c16
       clear c16
       by_cases c17 : x5_2 ≤ x6_2
       rotate_left
       · rw [if_neg c17] at H
         exact absurd H (by simp)
       rw [if_pos c17] at H
       have c17b0 := eq_true c17
       have c17b1 : decide (x5_2 ≤ x6_2) = true := decide_eq_true c17
       clear c17
       by_cases c18 : x6_2 ≤ (a0.size : Int)
       rotate_left
       · rw [if_neg c18] at H
         exact absurd H (by simp)
       rw [if_pos c18] at H
       have c18b0 := eq_true c18
       have c18b1 : decide (x6_2 ≤ (a0.size : Int)) = true := decide_eq_true c18
       clear c18
       replace H := Option.bind_eq_some_iff.mp H
       obtain ⟨t328, A190, H⟩ := H
       replace H : (if t328 = true then (if x4_2.length < 8796093022208 then (majordomoref03_Path.l0 kj9 a0 (x4_2 ++ [a0.extract (x5_2 : Int).toNat (x6_2 : Int).toNat]) (wrap64 (x6_2 + 1)) (wrap64 (x6_2 + 1))) else (none)) else (some (([] : List ByteArray), 40))) = some (r1, r2) := H
       have A19 := As.mk A190
       clear A190
       by_cases c20 : t328 = true
       rotate_left
       · replace c20 := Bool.eq_false_iff.mpr c20
         subst c20
         have H1 : (some (([] : List ByteArray), 40)) = some (r1, r2) := by rw [if_neg (show ¬ (false = true) by decide)] at H; exact H
         clear H
         have H := H1
         clear H1
         simp only [Option.some.injEq, Prod.mk.injEq] at H
         obtain ⟨rfl, rfl⟩ := H
         go_wp2_with (first | ((with_reducible refine gate_callee (f := 100) rfl ?_); refine goesL_ (some 42) rfl rfl Tryz.func100 (by kernel_rfl) rfl #[.string (a0.extract (x5_2 : Int).toNat (x6_2 : Int).toNat)] rfl (by (try simp only [List.map_toArray, List.map_cons, List.map_nil]); first | done | rfl | (simp only [List.length_drop, List.length_take]; rfl)) ?_; (with_reducible refine (majordomoref03_Name.calls kj9 (a0.extract (x5_2 : Int).toNat (x6_2 : Int).toNat) false _ A19.out).mono ?_); rintro e w' ⟨rfl, ⟨nd, rfl⟩⟩; refine ⟨_, rfl, ?_⟩))
         go_ret2
         exact ⟨_, by first | rfl | (simp [errW_none, errW_some] <;> rfl) | (simp [*, errW_none, errW_some] <;> rfl), by first | exact Kd.R_nil _ _ _ _ _ | exact Kd.N_nil _ _ _ _ _ | exact Kd.V_nil _ _ _ _ _ | exact Kd.Q_nil _ _ _ _ _ | exact Kd.S_nil _ _ _ _ _, by repeat (first | (with_reducible first | exact HB.out | apply bA | apply bN | apply bD) | exact HB.out)⟩
       subst c20
       have H1 : (if x4_2.length < 8796093022208 then (majordomoref03_Path.l0 kj9 a0 (x4_2 ++ [a0.extract (x5_2 : Int).toNat (x6_2 : Int).toNat]) (wrap64 (x6_2 + 1)) (wrap64 (x6_2 + 1))) else (none)) = some (r1, r2) := by rw [if_pos rfl] at H; exact H
       clear H
       have H := H1
       clear H1
       have c21b0 := eq_true (of_decide_eq_true (by first | (with_reducible assumption) | assumption) : 0 ≤ x5_2)
       have c22b0 := eq_true (of_decide_eq_true (by first | (with_reducible assumption) | assumption) : x5_2 ≤ x6_2)
       have c23b0 := eq_true (of_decide_eq_true (by first | (with_reducible assumption) | assumption) : x6_2 ≤ (a0.size : Int))
       by_cases c24 : x4_2.length < 8796093022208
       rotate_left
       · rw [if_neg c24] at H
         exact absurd H (by simp)
       rw [if_pos c24] at H
       have LMc24 := As.mk c24
       clear c24
       obtain ⟨y329, hy329⟩ : ∃ y_ : List ByteArray, y_ = (x4_2 ++ [a0.extract (x5_2 : Int).toNat (x6_2 : Int).toNat]) := ⟨_, rfl⟩
       replace H : (majordomoref03_Path.l0 kj9 a0 y329 (wrap64 (x6_2 + 1)) (wrap64 (x6_2 + 1))) = some (r1, r2) := by first | (rw [hy329]; with_reducible exact H) | (have H2_ := (Option.bind_some _ _).symm.trans H; rw [hy329]; with_reducible exact H2_) | (have H2_ := (Option.bind_some _ _).symm.trans H; with_reducible exact H2_) | with_reducible exact H | (rw [hy329]; exact H) | exact H
       have Ny329 := As.mk hy329
       clear hy329
       have H' := As.mk H
       clear H
       go_wp2_with (first | ((with_reducible refine gate_callee (f := 100) rfl ?_); refine goesL_ (some 42) rfl rfl Tryz.func100 (by kernel_rfl) rfl #[.string (a0.extract (x5_2 : Int).toNat (x6_2 : Int).toNat)] rfl (by (try simp only [List.map_toArray, List.map_cons, List.map_nil]); first | done | rfl | (simp only [List.length_drop, List.length_take]; rfl)) ?_; (with_reducible refine (majordomoref03_Name.calls kj9 (a0.extract (x5_2 : Int).toNat (x6_2 : Int).toNat) true _ A19.out).mono ?_); rintro e w' ⟨rfl, ⟨nd, rfl⟩⟩; refine ⟨_, rfl, ?_⟩) | ((with_reducible refine gate_builtin (b := .append) (xs := #[.tmp 44, .tmp 49]) rfl ?_); (try (refine gate_guard (by rfl) ?_; dsimp only)); at_builtin; refine Kd.R_append Kd.string (w0 := w) w.heap.size rfl (.tmp 44) (.tmp 49) 71 9 (.string ⟨#[]⟩) 16 rfl Tryz.underlying71 info9 rfl (by decide) (by omega) u4 x4_2 (a0.extract (x5_2 : Int).toNat (x6_2 : Int).toNat) [.string (a0.extract (x5_2 : Int).toNat (x6_2 : Int).toNat)] (fun _ => True) (fun _ => False) rfl rfl ?aP (fun _ hk => hk.elim) ?aF ?aO ?aB ?aS ?aL ?_; (case aP => exact rfl); (case aB => exact (by repeat (first | (with_reducible first | exact HB.out | apply bA | apply bN | apply bD) | exact HB.out))); (case aF => exact (fun _ _ => trivial)); (case aO => exact (by (with_reducible repeat (first | apply Kd.R_alloc | apply Kd.R_drewN | apply Kd.R_drew)); exact HO_4.out)); (case aS => exact (bZ (by repeat (first | (with_reducible first | exact HB.out | apply bA | apply bN | apply bD) | exact HB.out)))); (case aL => have := LMc24.out; omega); intro v330 w25 ho hb hg hat; rw [← Ny329.out] at ho; have n0_ := As.mk (hb); have n1_ := As.mk (ho); clear HB; clear HO_4; have HB := n0_; have HO331 := n1_; clear n0_ n1_; clear ho hb hg hat))
       go_roundg kj9
       case measure => have := HJ2.out; have := HK2.out; have := HJ9.out; omega
       case rel => exact ⟨(y329), (wrap64 (x6_2 + 1)), (wrap64 (x6_2 + 1)), (by first | rfl | (simp; done) | (simp [*]; done)), (by first | rfl | (simp; done) | (simp [*]; done)), H', ⟨by have := HJ2.out; have := HK2.out; have := HJ9.out; omega⟩, ⟨by (with_reducible repeat (first | apply Kd.R_alloc | apply Kd.R_drewN | apply Kd.R_drew)); exact HO331.out⟩, ⟨by repeat (first | (with_reducible first | exact HB.out | apply bA | apply bN | apply bD) | exact HB.out)⟩⟩
def majordomoref06_title.f (k : Nat) (a0 : ByteArray) (a1 : ByteArray) : Option (Bool) := if a0.toList = ([102, 105, 108, 101] : List UInt8) then ((majordomoref03_Path.f k a1).bind fun bt332 => (if bt332.2 = 0 then (if (bt332.1.length : Int) > 0 then (if 0 < (bt332.1.length : Int) then (if (rdOf ByteArray.empty bt332.1 0).toList = ([116, 97, 98] : List UInt8) then (some false) else (some ((rdOf ByteArray.empty bt332.1 0).toList != ([114, 117, 110] : List UInt8)))) else (none)) else (some false)) else (some false))) else ((majordomoref06_key.f k a1).bind fun t338 => (some t338))
set_option maxHeartbeats 8000000 in
set_option maxRecDepth 100000 in
theorem majordomoref06_title.calls (k : Nat) (a0 : ByteArray) (a1 : ByteArray) (r : Bool) (w : World) (h : majordomoref06_title.f k a0 a1 = some r) :
 Calls Tryz.prog 35 #[.string a0, .string a1] w fun e w' => e = .returned (.bool r) ∧ Below w.heap.size w w' := by
 have HB := As.mk (Below.refl w.heap.size w)
 have H : (if a0.toList = ([102, 105, 108, 101] : List UInt8) then ((majordomoref03_Path.f k a1).bind fun bt332 => (if bt332.2 = 0 then (if (bt332.1.length : Int) > 0 then (if 0 < (bt332.1.length : Int) then (if (rdOf ByteArray.empty bt332.1 0).toList = ([116, 97, 98] : List UInt8) then (some false) else (some ((rdOf ByteArray.empty bt332.1 0).toList != ([114, 117, 110] : List UInt8)))) else (none)) else (some false)) else (some false))) else ((majordomoref06_key.f k a1).bind fun t338 => (some t338))) = some r := h
 clear h
 by_cases c3 : a0.toList = ([102, 105, 108, 101] : List UInt8)
 rotate_left
 · rw [if_neg c3] at H
   have c3b0 : (a0.toList == ([102, 105, 108, 101] : List UInt8)) = false := beq_eq_false_iff_ne.mpr c3
   have c3b1 : (a0.toList != ([102, 105, 108, 101] : List UInt8)) = true := bne_iff_ne.mpr c3
   replace H := Option.bind_eq_some_iff.mp H
   obtain ⟨t338, A160, H⟩ := H
   replace H : (some t338) = some r := H
   have A16 := As.mk A160
   clear A160
   obtain rfl := Option.some.inj H
   go_enter Tryz.func35, Tryz.ntmps35
   go_wp2_with (first | ((with_reducible refine gate_callee (f := 66) rfl ?_); refine goesL_ (some 10) rfl rfl Tryz.func66 (by kernel_rfl) rfl #[.string a1] rfl (by (try simp only [List.map_toArray, List.map_cons, List.map_nil]); first | done | rfl | (simp only [List.length_drop, List.length_take]; rfl)) ?_; (with_reducible refine (majordomoref06_key.calls k a1 t338 _ A16.out).mono ?_); rintro e w' ⟨rfl, ⟨nd, rfl⟩⟩; refine ⟨_, rfl, ?_⟩))
   go_ret
   exact ⟨by first | rfl | (simp [errW_none, errW_some] <;> rfl) | (simp [*, errW_none, errW_some] <;> rfl), by repeat (first | (with_reducible first | exact HB.out | apply bA | apply bN | apply bD) | exact HB.out)⟩
 rw [if_pos c3] at H
 have c3b0 : (a0.toList == ([102, 105, 108, 101] : List UInt8)) = true := beq_iff_eq.mpr c3
 have c3b1 : (a0.toList != ([102, 105, 108, 101] : List UInt8)) = false := bne_eq_false_iff_eq.mpr c3
 clear c3
 replace H := Option.bind_eq_some_iff.mp H
 obtain ⟨⟨t332, t333⟩, A40, H⟩ := H
 replace H : (if t333 = 0 then (if (t332.length : Int) > 0 then (if 0 < (t332.length : Int) then (if (rdOf ByteArray.empty t332 0).toList = ([116, 97, 98] : List UInt8) then (some false) else (some ((rdOf ByteArray.empty t332 0).toList != ([114, 117, 110] : List UInt8)))) else (none)) else (some false)) else (some false)) = some r := H
 have A4 := As.mk A40
 clear A40
 by_cases c5 : t333 = 0
 rotate_left
 · rw [if_neg c5] at H
   have c5b0 : (t333 == 0) = false := beq_eq_false_iff_ne.mpr c5
   have c5b1 : (t333 != 0) = true := bne_iff_ne.mpr c5
   obtain rfl := Option.some.inj H
   go_enter Tryz.func35, Tryz.ntmps35
   go_wp2_with (first | ((with_reducible refine gate_callee (f := 67) rfl ?_); refine goesL_ (some 13) rfl rfl Tryz.func67 (by kernel_rfl) rfl #[.string a1] rfl (by (try simp only [List.map_toArray, List.map_cons, List.map_nil]); first | done | rfl | (simp only [List.length_drop, List.length_take]; rfl)) ?_; (with_reducible refine (majordomoref03_Path.calls k a1 t332 t333 _ A4.out).mono ?_); rintro e w15 ⟨v334, rfl, ho0, hb⟩; refine ⟨_, rfl, ?_⟩; have n0_ := As.mk (Kd.R_lower ho0 (bZ (by repeat (first | (with_reducible first | exact HB.out | apply bA | apply bN | apply bD) | exact HB.out)))); have n1_ := As.mk (bT (by repeat (first | (with_reducible first | exact HB.out | apply bA | apply bN | apply bD) | exact HB.out)) hb); clear HB; have HO335 := n0_; have HB := n1_; clear n0_ n1_; (try clear hb); (try clear hb2); (try clear hk); (try clear hi); (try clear ho0)))
   go_ret
   exact ⟨by first | rfl | (simp [errW_none, errW_some] <;> rfl) | (simp [*, errW_none, errW_some] <;> rfl), by repeat (first | (with_reducible first | exact HB.out | apply bA | apply bN | apply bD) | exact HB.out)⟩
 rw [if_pos c5] at H
 have c5b0 : (t333 == 0) = true := beq_iff_eq.mpr c5
 have c5b1 : (t333 != 0) = false := bne_eq_false_iff_eq.mpr c5
 clear c5
 by_cases c6 : (t332.length : Int) > 0
 rotate_left
 · rw [if_neg c6] at H
   have c6b0 : decide (0 < (t332.length : Int)) = false := decide_eq_false c6
   have c6b1 : decide (0 < t332.length) = false := decide_eq_false (by omega)
   clear c6
   obtain rfl := Option.some.inj H
   go_enter Tryz.func35, Tryz.ntmps35
   go_wp2_with (first | ((with_reducible refine gate_callee (f := 67) rfl ?_); refine goesL_ (some 13) rfl rfl Tryz.func67 (by kernel_rfl) rfl #[.string a1] rfl (by (try simp only [List.map_toArray, List.map_cons, List.map_nil]); first | done | rfl | (simp only [List.length_drop, List.length_take]; rfl)) ?_; (with_reducible refine (majordomoref03_Path.calls k a1 t332 t333 _ A4.out).mono ?_); rintro e w13 ⟨v334, rfl, ho0, hb⟩; refine ⟨_, rfl, ?_⟩; have n0_ := As.mk (Kd.R_lower ho0 (bZ (by repeat (first | (with_reducible first | exact HB.out | apply bA | apply bN | apply bD) | exact HB.out)))); have n1_ := As.mk (bT (by repeat (first | (with_reducible first | exact HB.out | apply bA | apply bN | apply bD) | exact HB.out)) hb); clear HB; have HO335 := n0_; have HB := n1_; clear n0_ n1_; (try clear hb); (try clear hb2); (try clear hk); (try clear hi); (try clear ho0); obtain ⟨Ao14, co14, eo14⟩ := Kd.R_slice HO335.out; subst eo14))
   go_ret
   exact ⟨by first | rfl | (simp [errW_none, errW_some] <;> rfl) | (simp [*, errW_none, errW_some] <;> rfl), by repeat (first | (with_reducible first | exact HB.out | apply bA | apply bN | apply bD) | exact HB.out)⟩
 rw [if_pos c6] at H
 have c6b0 : decide (0 < (t332.length : Int)) = true := decide_eq_true c6
 have c6b1 : decide (0 < t332.length) = true := decide_eq_true (by omega)
 clear c6
 by_cases c7 : 0 < (t332.length : Int)
 rotate_left
 · rw [if_neg c7] at H
   exact absurd H (by simp)
 rw [if_pos c7] at H
 have c7b0 : decide (0 < (t332.length : Int)) = true := decide_eq_true c7
 have c7b1 : decide (0 < t332.length) = true := decide_eq_true (by omega)
 clear c7
 by_cases c8 : (rdOf ByteArray.empty t332 0).toList = ([116, 97, 98] : List UInt8)
 · rw [if_pos c8] at H
   have c8b0 : ((rdOf ByteArray.empty t332 0).toList == ([116, 97, 98] : List UInt8)) = true := beq_iff_eq.mpr c8
   have c8b1 : ((rdOf ByteArray.empty t332 0).toList != ([116, 97, 98] : List UInt8)) = false := bne_eq_false_iff_eq.mpr c8
   clear c8
   obtain rfl := Option.some.inj H
   go_enter Tryz.func35, Tryz.ntmps35
   go_wp2_with (first | ((with_reducible refine gate_callee (f := 67) rfl ?_); refine goesL_ (some 13) rfl rfl Tryz.func67 (by kernel_rfl) rfl #[.string a1] rfl (by (try simp only [List.map_toArray, List.map_cons, List.map_nil]); first | done | rfl | (simp only [List.length_drop, List.length_take]; rfl)) ?_; (with_reducible refine (majordomoref03_Path.calls k a1 t332 t333 _ A4.out).mono ?_); rintro e w9 ⟨v334, rfl, ho0, hb⟩; refine ⟨_, rfl, ?_⟩; have n0_ := As.mk (Kd.R_lower ho0 (bZ (by repeat (first | (with_reducible first | exact HB.out | apply bA | apply bN | apply bD) | exact HB.out)))); have n1_ := As.mk (bT (by repeat (first | (with_reducible first | exact HB.out | apply bA | apply bN | apply bD) | exact HB.out)) hb); clear HB; have HO335 := n0_; have HB := n1_; clear n0_ n1_; (try clear hb); (try clear hb2); (try clear hk); (try clear hi); (try clear ho0); obtain ⟨Ao10, co10, eo10⟩ := Kd.R_slice HO335.out; subst eo10; have p336 : 0 ≤ (0 : Int) := (by omega); have q336 : 0 < (t332.length : Int) := of_decide_eq_true (by first | (with_reducible assumption) | assumption); obtain ⟨ad336, e336, hx336_0⟩ := Kd.at_string (Kd.R_reads' HO335.out).2.2 0 p336 q336; cases e336; have qi336 : (0 < t332.length) = True := eq_true (by omega); (try rw [show ((0 : Int)).toNat = 0 from rfl] at hx336_0); (try rw [Addr.add_zero'] at hx336_0); replace p336 := eq_true p336; replace q336 := eq_true q336))
   go_ret
   exact ⟨by first | rfl | (simp [errW_none, errW_some] <;> rfl) | (simp [*, errW_none, errW_some] <;> rfl), by repeat (first | (with_reducible first | exact HB.out | apply bA | apply bN | apply bD) | exact HB.out)⟩
 rw [if_neg c8] at H
 have c8b0 : ((rdOf ByteArray.empty t332 0).toList == ([116, 97, 98] : List UInt8)) = false := beq_eq_false_iff_ne.mpr c8
 have c8b1 : ((rdOf ByteArray.empty t332 0).toList != ([116, 97, 98] : List UInt8)) = true := bne_iff_ne.mpr c8
 obtain rfl := Option.some.inj H
 go_enter Tryz.func35, Tryz.ntmps35
 go_wp2_with (first | ((with_reducible refine gate_callee (f := 67) rfl ?_); refine goesL_ (some 13) rfl rfl Tryz.func67 (by kernel_rfl) rfl #[.string a1] rfl (by (try simp only [List.map_toArray, List.map_cons, List.map_nil]); first | done | rfl | (simp only [List.length_drop, List.length_take]; rfl)) ?_; (with_reducible refine (majordomoref03_Path.calls k a1 t332 t333 _ A4.out).mono ?_); rintro e w11 ⟨v334, rfl, ho0, hb⟩; refine ⟨_, rfl, ?_⟩; have n0_ := As.mk (Kd.R_lower ho0 (bZ (by repeat (first | (with_reducible first | exact HB.out | apply bA | apply bN | apply bD) | exact HB.out)))); have n1_ := As.mk (bT (by repeat (first | (with_reducible first | exact HB.out | apply bA | apply bN | apply bD) | exact HB.out)) hb); clear HB; have HO335 := n0_; have HB := n1_; clear n0_ n1_; (try clear hb); (try clear hb2); (try clear hk); (try clear hi); (try clear ho0); obtain ⟨Ao12, co12, eo12⟩ := Kd.R_slice HO335.out; subst eo12; have p336 : 0 ≤ (0 : Int) := (by omega); have q336 : 0 < (t332.length : Int) := of_decide_eq_true (by first | (with_reducible assumption) | assumption); obtain ⟨ad336, e336, hx336_0⟩ := Kd.at_string (Kd.R_reads' HO335.out).2.2 0 p336 q336; cases e336; have qi336 : (0 < t332.length) = True := eq_true (by omega); (try rw [show ((0 : Int)).toNat = 0 from rfl] at hx336_0); (try rw [Addr.add_zero'] at hx336_0); replace p336 := eq_true p336; replace q336 := eq_true q336; have p337 : 0 ≤ (0 : Int) := (by omega); have q337 : 0 < (t332.length : Int) := of_decide_eq_true (by first | (with_reducible assumption) | assumption); obtain ⟨ad337, e337, hx337_0⟩ := Kd.at_string (Kd.R_reads' HO335.out).2.2 0 p337 q337; obtain rfl : ad336 = ad337 := (by injection e337); have qi337 : (0 < t332.length) = True := eq_true (by omega); (try rw [show ((0 : Int)).toNat = 0 from rfl] at hx337_0); (try rw [Addr.add_zero'] at hx337_0); replace p337 := eq_true p337; replace q337 := eq_true q337))
 go_ret
 exact ⟨by first | rfl | (simp [errW_none, errW_some] <;> rfl) | (simp [*, errW_none, errW_some] <;> rfl), by repeat (first | (with_reducible first | exact HB.out | apply bA | apply bN | apply bD) | exact HB.out)⟩
def majordomoref06_digits.l0 : Nat → ByteArray → Int → Int → Int → Int → Option (Bool)
 | 0, _, _, _, _, _ => none
 | k + 1, x0, x1, x2, x3, x9 => if x9 < (x0.size : Int) then (if 0 ≤ x9 then (if (bt x0 x9) < 48 then (some false) else (if (bt x0 x9) > x3 then (some false) else (majordomoref06_digits.l0 k x0 x1 x2 x3 (wrap64 (x9 + 1))))) else (none)) else (if (x0.size : Int) ≥ x1 then (some (decide ((x0.size : Int) ≤ x2))) else (some false))
def majordomoref06_digits.f (k : Nat) (a0 : ByteArray) (a1 : Int) (a2 : Int) (a3 : Int) : Option (Bool) := majordomoref06_digits.l0 k a0 a1 a2 a3 0
set_option maxHeartbeats 8000000 in
set_option maxRecDepth 100000 in
theorem majordomoref06_digits.calls (k : Nat) (a0 : ByteArray) (a1 : Int) (a2 : Int) (a3 : Int) (r : Bool) (w : World) (h : majordomoref06_digits.f k a0 a1 a2 a3 = some r) :
 Calls Tryz.prog 68 #[.string a0, .int .i64 a1, .int .i64 a2, .int .u8 a3] w fun e w' => e = .returned (.bool r) ∧ Drawn0 w w' := by
 have H : (majordomoref06_digits.l0 k a0 a1 a2 a3 0) = some r := h
 clear h
 have H' := As.mk H
 clear H
 go_enter Tryz.func68, Tryz.ntmps68
 go_wp2
 go_loopg [9] k (fun kq v9 w' => ∃ (x9_1 : Int), v9 = .int .i64 x9_1 ∧ As (majordomoref06_digits.l0 kq a0 a1 a2 a3 x9_1 = some r) ∧ As (kq ≤ k) ∧ Drawn0 w w')
 case atStart => exact ⟨(0), (by first | rfl | (simp; done) | (simp [*]; done)), H', ⟨Nat.le_refl _⟩, by repeat (first | exact Drawn0.refl _ | apply Drawn0.step)⟩
 case round =>
  clear H'
  try clear p2
  obtain ⟨x9_1, rfl, HA, HK1, ⟨m1, rfl⟩⟩ := hrel
  cases gk with
  | zero => exact absurd HA.out (by simp [majordomoref06_digits.l0])
  | succ k1 =>
   have H := HA.out
   clear HA
   simp only [majordomoref06_digits.l0] at H
   by_cases c5 : x9_1 < (a0.size : Int)
   rotate_left
   · rw [if_neg c5] at H
     have c5b0 : decide (x9_1 < (a0.size : Int)) = false := decide_eq_false c5
     clear c5
     by_cases c11 : (a0.size : Int) ≥ a1
     · rw [if_pos c11] at H
       have c11b0 : decide (a1 ≤ (a0.size : Int)) = true := decide_eq_true c11
       clear c11
       obtain rfl := Option.some.inj H
       go_wp2
       go_ret
       exact ⟨by first | rfl | (simp; done) | (simp [*]; done), by repeat (first | exact Drawn0.refl _ | apply Drawn0.step)⟩
     rw [if_neg c11] at H
     have c11b0 : decide (a1 ≤ (a0.size : Int)) = false := decide_eq_false c11
     clear c11
     obtain rfl := Option.some.inj H
     go_wp2
     go_ret
     exact ⟨by first | rfl | (simp; done) | (simp [*]; done), by repeat (first | exact Drawn0.refl _ | apply Drawn0.step)⟩
   rw [if_pos c5] at H
   have c5b0 : decide (x9_1 < (a0.size : Int)) = true := decide_eq_true c5
   clear c5
   by_cases c6 : 0 ≤ x9_1
   rotate_left
   · rw [if_neg c6] at H
     exact absurd H (by simp)
   rw [if_pos c6] at H
   have c6b0 : decide (0 ≤ x9_1) = true := decide_eq_true c6
   clear c6
   by_cases c8 : (bt a0 x9_1) < 48
   · rw [if_pos c8] at H
     have c8b0 : decide ((bt a0 x9_1) < 48) = true := decide_eq_true c8
     clear c8
     obtain rfl := Option.some.inj H
     have p7 : 0 ≤ (x9_1 : Int) := of_decide_eq_true (by first | (with_reducible assumption) | assumption)
     have q7 : x9_1 < (a0.size : Int) := of_decide_eq_true (by first | (with_reducible assumption) | assumption)
     have hx7 := bt_at a0 x9_1
     replace p7 := eq_true p7
     replace q7 := eq_true q7
     go_wp2
     go_ret
     exact ⟨by first | rfl | (simp; done) | (simp [*]; done), by repeat (first | exact Drawn0.refl _ | apply Drawn0.step)⟩
   rw [if_neg c8] at H
   have c8b0 : decide ((bt a0 x9_1) < 48) = false := decide_eq_false c8
   clear c8
   by_cases c10 : (bt a0 x9_1) > a3
   · rw [if_pos c10] at H
     have c10b0 : decide (a3 < (bt a0 x9_1)) = true := decide_eq_true c10
     clear c10
     obtain rfl := Option.some.inj H
     have p7 : 0 ≤ (x9_1 : Int) := of_decide_eq_true (by first | (with_reducible assumption) | assumption)
     have q7 : x9_1 < (a0.size : Int) := of_decide_eq_true (by first | (with_reducible assumption) | assumption)
     have hx7 := bt_at a0 x9_1
     replace p7 := eq_true p7
     replace q7 := eq_true q7
     have p9 : 0 ≤ (x9_1 : Int) := of_decide_eq_true (by first | (with_reducible assumption) | assumption)
     have q9 : x9_1 < (a0.size : Int) := of_decide_eq_true (by first | (with_reducible assumption) | assumption)
     have hx9 := bt_at a0 x9_1
     replace p9 := eq_true p9
     replace q9 := eq_true q9
     go_wp2
     go_ret
     exact ⟨by first | rfl | (simp; done) | (simp [*]; done), by repeat (first | exact Drawn0.refl _ | apply Drawn0.step)⟩
   rw [if_neg c10] at H
   have c10b0 : decide (a3 < (bt a0 x9_1)) = false := decide_eq_false c10
   clear c10
   have H' := As.mk H
   clear H
   have p7 : 0 ≤ (x9_1 : Int) := of_decide_eq_true (by first | (with_reducible assumption) | assumption)
   have q7 : x9_1 < (a0.size : Int) := of_decide_eq_true (by first | (with_reducible assumption) | assumption)
   have hx7 := bt_at a0 x9_1
   replace p7 := eq_true p7
   replace q7 := eq_true q7
   have p9 : 0 ≤ (x9_1 : Int) := of_decide_eq_true (by first | (with_reducible assumption) | assumption)
   have q9 : x9_1 < (a0.size : Int) := of_decide_eq_true (by first | (with_reducible assumption) | assumption)
   have hx9 := bt_at a0 x9_1
   replace p9 := eq_true p9
   replace q9 := eq_true q9
   go_wp2
   go_roundg k1
   case measure => have := HK1.out; omega
   case rel => exact ⟨(wrap64 (x9_1 + 1)), (by first | rfl | (simp; done) | (simp [*]; done)), H', ⟨by have := HK1.out; omega⟩, by repeat (first | exact Drawn0.refl _ | apply Drawn0.step)⟩
end Go.Proofs.YtkgafkoopefghaaGreatDoor.PA
end
section
namespace Go.Proofs.YtkgafkoopefghaaGreatDoor.PA
open Go.RowKit Go.Proofs.YtkgafkoopefghaaGreatDoorW.PrintWords Go.Proofs.YtkgafkoopefghaaGreatDoorW.PrintLast Go.Proofs.YtkgafkoopefghaaGreatDoorW.PrintMore
open Go.Proofs.YtkgafkoopefghaaGreatDoor.Hk
attribute [local go_sem] max2_int min2_int max_two min_two max_three min_three max_four min_four
set_option linter.unusedVariables false
set_option linter.unusedSimpArgs false
def majordomoref06_value.j0 : Nat → ByteArray → ByteArray → ByteArray → Bool → Option (Bool)
 | 0, _, _, _, _ => none
 | k + 1, x0, x1, x7, x39 => if x39 = true then ((majordomoref06_digits.f k x1 1 5 57).bind fun t344 => (some t344)) else (if x7.toList = ([103, 114, 111, 117, 112] : List UInt8) then ((majordomoref06_key.f k x1).bind fun t345 => (some t345)) else (if x7.toList = ([115, 104, 101, 108, 108] : List UInt8) then ((majordomoref05_Word.f k x1 64).bind fun t346 => (some t346)) else (if x7.toList = ([118, 101, 114, 115, 105, 111, 110] : List UInt8) then (if x1.toList = ([] : List UInt8) then (some false) else ((majordomoref05_Word.f k x1 64).bind fun t347 => (some t347))) else (some (x0.toList == ([101, 110, 115, 117, 114, 101] : List UInt8))))))
def majordomoref06_value.f (k : Nat) (a0 : ByteArray) (a1 : ByteArray) : Option (Bool) := if a0.toList = ([99, 111, 110, 116, 101, 110, 116] : List UInt8) then (some (decide ((a1.size : Int) ≤ 512))) else (if a0.toList = ([109, 111, 100, 101] : List UInt8) then ((majordomoref06_digits.f k a1 4 4 55).bind fun t339 => (if t339 = true then (if 0 < (a1.size : Int) then (some ((bt a1 0) == 48)) else (none)) else (some false))) else (if a0.toList = ([112, 117, 114, 103, 101] : List UInt8) then (if a1.toList = ([102, 97, 108, 115, 101] : List UInt8) then (some true) else (some (a1.toList == ([116, 114, 117, 101] : List UInt8)))) else (if a0.toList = ([116, 97, 114, 103, 101, 116] : List UInt8) then ((majordomoref03_Path.f k a1).bind fun bt340 => (some (bt340.2 == 0))) else (if a0.toList = ([117, 105, 100] : List UInt8) then (majordomoref06_value.j0 k a0 a1 a0 (a0.toList == ([117, 105, 100] : List UInt8))) else (majordomoref06_value.j0 k a0 a1 a0 (a0.toList == ([103, 105, 100] : List UInt8)))))))
set_option maxHeartbeats 8000000 in
set_option maxRecDepth 100000 in
theorem majordomoref06_value.calls (k : Nat) (a0 : ByteArray) (a1 : ByteArray) (r : Bool) (w : World) (h : majordomoref06_value.f k a0 a1 = some r) :
 Calls Tryz.prog 36 #[.string a0, .string a1] w fun e w' => e = .returned (.bool r) ∧ Below w.heap.size w w' := by
 have HB := As.mk (Below.refl w.heap.size w)
 have H : (if a0.toList = ([99, 111, 110, 116, 101, 110, 116] : List UInt8) then (some (decide ((a1.size : Int) ≤ 512))) else (if a0.toList = ([109, 111, 100, 101] : List UInt8) then ((majordomoref06_digits.f k a1 4 4 55).bind fun t339 => (if t339 = true then (if 0 < (a1.size : Int) then (some ((bt a1 0) == 48)) else (none)) else (some false))) else (if a0.toList = ([112, 117, 114, 103, 101] : List UInt8) then (if a1.toList = ([102, 97, 108, 115, 101] : List UInt8) then (some true) else (some (a1.toList == ([116, 114, 117, 101] : List UInt8)))) else (if a0.toList = ([116, 97, 114, 103, 101, 116] : List UInt8) then ((majordomoref03_Path.f k a1).bind fun bt340 => (some (bt340.2 == 0))) else (if a0.toList = ([117, 105, 100] : List UInt8) then (majordomoref06_value.j0 k a0 a1 a0 (a0.toList == ([117, 105, 100] : List UInt8))) else (majordomoref06_value.j0 k a0 a1 a0 (a0.toList == ([103, 105, 100] : List UInt8)))))))) = some r := h
 clear h
 by_cases c3 : a0.toList = ([99, 111, 110, 116, 101, 110, 116] : List UInt8)
 · rw [if_pos c3] at H
   have c3b0 : (a0.toList == ([99, 111, 110, 116, 101, 110, 116] : List UInt8)) = true := beq_iff_eq.mpr c3
   have c3b1 : (a0.toList != ([99, 111, 110, 116, 101, 110, 116] : List UInt8)) = false := bne_eq_false_iff_eq.mpr c3
   clear c3
   obtain rfl := Option.some.inj H
   go_enter Tryz.func36, Tryz.ntmps36
   go_wp2
   go_ret
   exact ⟨by first | rfl | (simp [errW_none, errW_some] <;> rfl) | (simp [*, errW_none, errW_some] <;> rfl), by repeat (first | (with_reducible first | exact HB.out | apply bA | apply bN | apply bD) | exact HB.out)⟩
 rw [if_neg c3] at H
 have c3b0 : (a0.toList == ([99, 111, 110, 116, 101, 110, 116] : List UInt8)) = false := beq_eq_false_iff_ne.mpr c3
 have c3b1 : (a0.toList != ([99, 111, 110, 116, 101, 110, 116] : List UInt8)) = true := bne_iff_ne.mpr c3
 by_cases c4 : a0.toList = ([109, 111, 100, 101] : List UInt8)
 · rw [if_pos c4] at H
   have c4b0 : (a0.toList == ([109, 111, 100, 101] : List UInt8)) = true := beq_iff_eq.mpr c4
   have c4b1 : (a0.toList != ([109, 111, 100, 101] : List UInt8)) = false := bne_eq_false_iff_eq.mpr c4
   clear c4
   replace H := Option.bind_eq_some_iff.mp H
   obtain ⟨t339, A50, H⟩ := H
   replace H : (if t339 = true then (if 0 < (a1.size : Int) then (some ((bt a1 0) == 48)) else (none)) else (some false)) = some r := H
   have A5 := As.mk A50
   clear A50
   by_cases c6 : t339 = true
   rotate_left
   · replace c6 := Bool.eq_false_iff.mpr c6
     subst c6
     have H1 : (some false) = some r := by rw [if_neg (show ¬ (false = true) by decide)] at H; exact H
     clear H
     have H := H1
     clear H1
     obtain rfl := Option.some.inj H
     go_enter Tryz.func36, Tryz.ntmps36
     go_wp2_with (first | ((with_reducible refine gate_callee (f := 68) rfl ?_); refine goesL_ (some 16) rfl rfl Tryz.func68 (by kernel_rfl) rfl #[.string a1, .int .i64 4, .int .i64 4, .int .u8 55] rfl (by (try simp only [List.map_toArray, List.map_cons, List.map_nil]); first | done | rfl | (simp only [List.length_drop, List.length_take]; rfl)) ?_; (with_reducible refine (majordomoref06_digits.calls k a1 4 4 55 false _ A5.out).mono ?_); rintro e w' ⟨rfl, ⟨nd, rfl⟩⟩; refine ⟨_, rfl, ?_⟩))
     go_ret
     exact ⟨by first | rfl | (simp [errW_none, errW_some] <;> rfl) | (simp [*, errW_none, errW_some] <;> rfl), by repeat (first | (with_reducible first | exact HB.out | apply bA | apply bN | apply bD) | exact HB.out)⟩
   subst c6
   have H1 : (if 0 < (a1.size : Int) then (some ((bt a1 0) == 48)) else (none)) = some r := by rw [if_pos rfl] at H; exact H
   clear H
   have H := H1
   clear H1
   by_cases c7 : 0 < (a1.size : Int)
   rotate_left
   · rw [if_neg c7] at H
     exact absurd H (by simp)
   rw [if_pos c7] at H
   have c7b0 : decide (0 < (a1.size : Int)) = true := decide_eq_true c7
   have c7b1 : decide (0 < a1.size) = true := decide_eq_true (by omega)
   clear c7
   obtain rfl := Option.some.inj H
   go_enter Tryz.func36, Tryz.ntmps36
   go_wp2_with (first | ((with_reducible refine gate_callee (f := 68) rfl ?_); refine goesL_ (some 16) rfl rfl Tryz.func68 (by kernel_rfl) rfl #[.string a1, .int .i64 4, .int .i64 4, .int .u8 55] rfl (by (try simp only [List.map_toArray, List.map_cons, List.map_nil]); first | done | rfl | (simp only [List.length_drop, List.length_take]; rfl)) ?_; (with_reducible refine (majordomoref06_digits.calls k a1 4 4 55 true _ A5.out).mono ?_); rintro e w' ⟨rfl, ⟨nd, rfl⟩⟩; refine ⟨_, rfl, ?_⟩; have p8 : 0 ≤ (0 : Int) := (by omega); have q8 : 0 < a1.size := (by have : (0 : Int) < (a1.size : Int) := of_decide_eq_true (by first | (with_reducible assumption) | assumption); omega); have hx8 : ∀ h : 0 < a1.size, ((a1[0]'h).toNat : Int) = bt a1 0 := bt_at a1 0; clear p8; have qi8 : (0 < (a1.size : Int)) = True := eq_true (of_decide_eq_true (by first | (with_reducible assumption) | assumption)); replace q8 := eq_true q8))
   go_ret
   exact ⟨by first | rfl | (simp [errW_none, errW_some] <;> rfl) | (simp [*, errW_none, errW_some] <;> rfl), by repeat (first | (with_reducible first | exact HB.out | apply bA | apply bN | apply bD) | exact HB.out)⟩
 rw [if_neg c4] at H
 have c4b0 : (a0.toList == ([109, 111, 100, 101] : List UInt8)) = false := beq_eq_false_iff_ne.mpr c4
 have c4b1 : (a0.toList != ([109, 111, 100, 101] : List UInt8)) = true := bne_iff_ne.mpr c4
 by_cases c9 : a0.toList = ([112, 117, 114, 103, 101] : List UInt8)
 · rw [if_pos c9] at H
   have c9b0 : (a0.toList == ([112, 117, 114, 103, 101] : List UInt8)) = true := beq_iff_eq.mpr c9
   have c9b1 : (a0.toList != ([112, 117, 114, 103, 101] : List UInt8)) = false := bne_eq_false_iff_eq.mpr c9
   clear c9
   by_cases c10 : a1.toList = ([102, 97, 108, 115, 101] : List UInt8)
   rotate_left
   · rw [if_neg c10] at H
     have c10b0 : (a1.toList == ([102, 97, 108, 115, 101] : List UInt8)) = false := beq_eq_false_iff_ne.mpr c10
     have c10b1 : (a1.toList != ([102, 97, 108, 115, 101] : List UInt8)) = true := bne_iff_ne.mpr c10
     obtain rfl := Option.some.inj H
     go_enter Tryz.func36, Tryz.ntmps36
     go_wp2
     go_ret
     exact ⟨by first | rfl | (simp [errW_none, errW_some] <;> rfl) | (simp [*, errW_none, errW_some] <;> rfl), by repeat (first | (with_reducible first | exact HB.out | apply bA | apply bN | apply bD) | exact HB.out)⟩
   rw [if_pos c10] at H
   have c10b0 : (a1.toList == ([102, 97, 108, 115, 101] : List UInt8)) = true := beq_iff_eq.mpr c10
   have c10b1 : (a1.toList != ([102, 97, 108, 115, 101] : List UInt8)) = false := bne_eq_false_iff_eq.mpr c10
   clear c10
   obtain rfl := Option.some.inj H
   go_enter Tryz.func36, Tryz.ntmps36
   go_wp2
   go_ret
   exact ⟨by first | rfl | (simp [errW_none, errW_some] <;> rfl) | (simp [*, errW_none, errW_some] <;> rfl), by repeat (first | (with_reducible first | exact HB.out | apply bA | apply bN | apply bD) | exact HB.out)⟩
 rw [if_neg c9] at H
 have c9b0 : (a0.toList == ([112, 117, 114, 103, 101] : List UInt8)) = false := beq_eq_false_iff_ne.mpr c9
 have c9b1 : (a0.toList != ([112, 117, 114, 103, 101] : List UInt8)) = true := bne_iff_ne.mpr c9
 by_cases c11 : a0.toList = ([116, 97, 114, 103, 101, 116] : List UInt8)
 · rw [if_pos c11] at H
   have c11b0 : (a0.toList == ([116, 97, 114, 103, 101, 116] : List UInt8)) = true := beq_iff_eq.mpr c11
   have c11b1 : (a0.toList != ([116, 97, 114, 103, 101, 116] : List UInt8)) = false := bne_eq_false_iff_eq.mpr c11
   clear c11
   replace H := Option.bind_eq_some_iff.mp H
   obtain ⟨⟨t340, t341⟩, A120, H⟩ := H
   replace H : (some (t341 == 0)) = some r := H
   have A12 := As.mk A120
   clear A120
   obtain rfl := Option.some.inj H
   go_enter Tryz.func36, Tryz.ntmps36
   go_wp2_with (first | ((with_reducible refine gate_callee (f := 67) rfl ?_); refine goesL_ (some 34) rfl rfl Tryz.func67 (by kernel_rfl) rfl #[.string a1] rfl (by (try simp only [List.map_toArray, List.map_cons, List.map_nil]); first | done | rfl | (simp only [List.length_drop, List.length_take]; rfl)) ?_; (with_reducible refine (majordomoref03_Path.calls k a1 t340 t341 _ A12.out).mono ?_); rintro e w13 ⟨v342, rfl, ho0, hb⟩; refine ⟨_, rfl, ?_⟩; have n0_ := As.mk (Kd.R_lower ho0 (bZ (by repeat (first | (with_reducible first | exact HB.out | apply bA | apply bN | apply bD) | exact HB.out)))); have n1_ := As.mk (bT (by repeat (first | (with_reducible first | exact HB.out | apply bA | apply bN | apply bD) | exact HB.out)) hb); clear HB; have HO343 := n0_; have HB := n1_; clear n0_ n1_; (try clear hb); (try clear hb2); (try clear hk); (try clear hi); (try clear ho0)))
   go_ret
   exact ⟨by first | rfl | (simp [errW_none, errW_some] <;> rfl) | (simp [*, errW_none, errW_some] <;> rfl), by repeat (first | (with_reducible first | exact HB.out | apply bA | apply bN | apply bD) | exact HB.out)⟩
 rw [if_neg c11] at H
 have c11b0 : (a0.toList == ([116, 97, 114, 103, 101, 116] : List UInt8)) = false := beq_eq_false_iff_ne.mpr c11
 have c11b1 : (a0.toList != ([116, 97, 114, 103, 101, 116] : List UInt8)) = true := bne_iff_ne.mpr c11
 have HC14 := As.mk H
 clear H
 go_enter Tryz.func36, Tryz.ntmps36
 go_upto_if 39 with (fail)
 go_cut [39] (fun v39 wc => ∃ (kq : Nat) (x39_13 : Bool), v39 = .bool x39_13 ∧ As (majordomoref06_value.j0 kq a0 a1 a0 x39_13 = some r) ∧ As (kq ≤ k) ∧ As (Below w.heap.size w wc))
 case first =>
  have H := HC14.out
  clear HC14
  by_cases c15 : a0.toList = ([117, 105, 100] : List UInt8)
  rotate_left
  · rw [if_neg c15] at H
    have c15b0 : (a0.toList == ([117, 105, 100] : List UInt8)) = false := beq_eq_false_iff_ne.mpr c15
    have c15b1 : (a0.toList != ([117, 105, 100] : List UInt8)) = true := bne_iff_ne.mpr c15
    (first | rw [c15b0] | (simp only [i64_w, i32_w]; rw [c15b0]) | skip)
    have H' := As.mk H
    clear H
    go_wp2
    go_meet
    case rel => exact ⟨_, ((a0.toList == ([103, 105, 100] : List UInt8))), (by first | rfl | (simp; done) | (simp [*]; done)), H', ⟨by first | omega | exact Nat.le_refl _⟩, ⟨by repeat (first | (with_reducible first | exact HB.out | apply bA | apply bN | apply bD) | exact HB.out)⟩⟩
  rw [if_pos c15] at H
  have c15b0 : (a0.toList == ([117, 105, 100] : List UInt8)) = true := beq_iff_eq.mpr c15
  have c15b1 : (a0.toList != ([117, 105, 100] : List UInt8)) = false := bne_eq_false_iff_eq.mpr c15
  clear c15
  (first | rw [c15b0] | (simp only [i64_w, i32_w]; rw [c15b0]) | skip)
  have H' := As.mk H
  clear H
  go_wp2
  go_meet
  case rel => exact ⟨_, ((a0.toList == ([117, 105, 100] : List UInt8))), (by first | rfl | (simp; done) | (simp [*]; done)), H', ⟨by first | omega | exact Nat.le_refl _⟩, ⟨by repeat (first | (with_reducible first | exact HB.out | apply bA | apply bN | apply bD) | exact HB.out)⟩⟩
 case rest =>
  clear HC14
  try clear c1
  try clear p2
  try clear c3
  try clear c3b0
  try clear c3b1
  try clear c4
  try clear c4b0
  try clear c4b1
  try clear c6
  try clear c7
  try clear c7b0
  try clear c7b1
  try clear p8
  try clear q8
  try clear hx8
  try clear qi8
  try clear c9
  try clear c9b0
  try clear c9b1
  try clear c10
  try clear c10b0
  try clear c10b1
  try clear c11
  try clear c11b0
  try clear c11b1
  try clear c15
  try clear c15b0
  try clear c15b1
  try clear p8
  try clear q8
  obtain ⟨kq, x39_13, rfl, HA, HJ13, HB⟩ := hcut
  cases kq with
  | zero => exact absurd HA.out (by simp [majordomoref06_value.j0])
  | succ kj13 =>
   have H := HA.out
   clear HA
   simp only [majordomoref06_value.j0] at H
   by_cases c16 : x39_13 = true
   · subst c16
     have H1 : ((majordomoref06_digits.f kj13 a1 1 5 57).bind fun t344 => (some t344)) = some r := by rw [if_pos rfl] at H; exact H
     clear H
     have H := H1
     clear H1
     replace H := Option.bind_eq_some_iff.mp H
     obtain ⟨t344, A170, H⟩ := H
     replace H : (some t344) = some r := H
     have A17 := As.mk A170
     clear A170
     obtain rfl := Option.some.inj H
     go_wp2_with (first | ((with_reducible refine gate_callee (f := 68) rfl ?_); refine goesL_ (some 43) rfl rfl Tryz.func68 (by kernel_rfl) rfl #[.string a1, .int .i64 1, .int .i64 5, .int .u8 57] rfl (by (try simp only [List.map_toArray, List.map_cons, List.map_nil]); first | done | rfl | (simp only [List.length_drop, List.length_take]; rfl)) ?_; (with_reducible refine (majordomoref06_digits.calls kj13 a1 1 5 57 t344 _ A17.out).mono ?_); rintro e w' ⟨rfl, ⟨nd, rfl⟩⟩; refine ⟨_, rfl, ?_⟩))
     go_ret
     exact ⟨by first | rfl | (simp [errW_none, errW_some] <;> rfl) | (simp [*, errW_none, errW_some] <;> rfl), by repeat (first | (with_reducible first | exact HB.out | apply bA | apply bN | apply bD) | exact HB.out)⟩
   replace c16 := Bool.eq_false_iff.mpr c16
   subst c16
   have H1 : (if a0.toList = ([103, 114, 111, 117, 112] : List UInt8) then ((majordomoref06_key.f kj13 a1).bind fun t345 => (some t345)) else (if a0.toList = ([115, 104, 101, 108, 108] : List UInt8) then ((majordomoref05_Word.f kj13 a1 64).bind fun t346 => (some t346)) else (if a0.toList = ([118, 101, 114, 115, 105, 111, 110] : List UInt8) then (if a1.toList = ([] : List UInt8) then (some false) else ((majordomoref05_Word.f kj13 a1 64).bind fun t347 => (some t347))) else (some (a0.toList == ([101, 110, 115, 117, 114, 101] : List UInt8)))))) = some r := by rw [if_neg (show ¬ (false = true) by decide)] at H; exact H
   clear H
   have H := H1
   clear H1
   by_cases c18 : a0.toList = ([103, 114, 111, 117, 112] : List UInt8)
   · rw [if_pos c18] at H
     have c18b0 : (a0.toList == ([103, 114, 111, 117, 112] : List UInt8)) = true := beq_iff_eq.mpr c18
     have c18b1 : (a0.toList != ([103, 114, 111, 117, 112] : List UInt8)) = false := bne_eq_false_iff_eq.mpr c18
     clear c18
     replace H := Option.bind_eq_some_iff.mp H
     obtain ⟨t345, A190, H⟩ := H
     replace H : (some t345) = some r := H
     have A19 := As.mk A190
     clear A190
     obtain rfl := Option.some.inj H
     go_wp2_with (first | ((with_reducible refine gate_callee (f := 66) rfl ?_); refine goesL_ (some 47) rfl rfl Tryz.func66 (by kernel_rfl) rfl #[.string a1] rfl (by (try simp only [List.map_toArray, List.map_cons, List.map_nil]); first | done | rfl | (simp only [List.length_drop, List.length_take]; rfl)) ?_; (with_reducible refine (majordomoref06_key.calls kj13 a1 t345 _ A19.out).mono ?_); rintro e w' ⟨rfl, ⟨nd, rfl⟩⟩; refine ⟨_, rfl, ?_⟩))
     go_ret
     exact ⟨by first | rfl | (simp [errW_none, errW_some] <;> rfl) | (simp [*, errW_none, errW_some] <;> rfl), by repeat (first | (with_reducible first | exact HB.out | apply bA | apply bN | apply bD) | exact HB.out)⟩
   rw [if_neg c18] at H
   have c18b0 : (a0.toList == ([103, 114, 111, 117, 112] : List UInt8)) = false := beq_eq_false_iff_ne.mpr c18
   have c18b1 : (a0.toList != ([103, 114, 111, 117, 112] : List UInt8)) = true := bne_iff_ne.mpr c18
   by_cases c20 : a0.toList = ([115, 104, 101, 108, 108] : List UInt8)
   · rw [if_pos c20] at H
     have c20b0 : (a0.toList == ([115, 104, 101, 108, 108] : List UInt8)) = true := beq_iff_eq.mpr c20
     have c20b1 : (a0.toList != ([115, 104, 101, 108, 108] : List UInt8)) = false := bne_eq_false_iff_eq.mpr c20
     clear c20
     replace H := Option.bind_eq_some_iff.mp H
     obtain ⟨t346, A210, H⟩ := H
     replace H : (some t346) = some r := H
     have A21 := As.mk A210
     clear A210
     obtain rfl := Option.some.inj H
     go_wp2_with (first | ((with_reducible refine gate_callee (f := 44) rfl ?_); refine goesL_ (some 51) rfl rfl Tryz.func44 (by kernel_rfl) rfl #[.string a1, .int .i64 64] rfl (by (try simp only [List.map_toArray, List.map_cons, List.map_nil]); first | done | rfl | (simp only [List.length_drop, List.length_take]; rfl)) ?_; (with_reducible refine (majordomoref05_Word.calls kj13 a1 64 t346 _ A21.out).mono ?_); rintro e w' ⟨rfl, ⟨nd, rfl⟩⟩; refine ⟨_, rfl, ?_⟩))
     go_ret
     exact ⟨by first | rfl | (simp [errW_none, errW_some] <;> rfl) | (simp [*, errW_none, errW_some] <;> rfl), by repeat (first | (with_reducible first | exact HB.out | apply bA | apply bN | apply bD) | exact HB.out)⟩
   rw [if_neg c20] at H
   have c20b0 : (a0.toList == ([115, 104, 101, 108, 108] : List UInt8)) = false := beq_eq_false_iff_ne.mpr c20
   have c20b1 : (a0.toList != ([115, 104, 101, 108, 108] : List UInt8)) = true := bne_iff_ne.mpr c20
   by_cases c22 : a0.toList = ([118, 101, 114, 115, 105, 111, 110] : List UInt8)
   rotate_left
   · rw [if_neg c22] at H
     have c22b0 : (a0.toList == ([118, 101, 114, 115, 105, 111, 110] : List UInt8)) = false := beq_eq_false_iff_ne.mpr c22
     have c22b1 : (a0.toList != ([118, 101, 114, 115, 105, 111, 110] : List UInt8)) = true := bne_iff_ne.mpr c22
     obtain rfl := Option.some.inj H
     go_wp2
     go_ret
     exact ⟨by first | rfl | (simp [errW_none, errW_some] <;> rfl) | (simp [*, errW_none, errW_some] <;> rfl), by repeat (first | (with_reducible first | exact HB.out | apply bA | apply bN | apply bD) | exact HB.out)⟩
   rw [if_pos c22] at H
   have c22b0 : (a0.toList == ([118, 101, 114, 115, 105, 111, 110] : List UInt8)) = true := beq_iff_eq.mpr c22
   have c22b1 : (a0.toList != ([118, 101, 114, 115, 105, 111, 110] : List UInt8)) = false := bne_eq_false_iff_eq.mpr c22
   clear c22
   by_cases c23 : a1.toList = ([] : List UInt8)
   · rw [if_pos c23] at H
     have c23b0 : (a1.toList == ([] : List UInt8)) = true := beq_iff_eq.mpr c23
     have c23b1 : (a1.toList != ([] : List UInt8)) = false := bne_eq_false_iff_eq.mpr c23
     clear c23
     obtain rfl := Option.some.inj H
     go_wp2
     go_ret
     exact ⟨by first | rfl | (simp [errW_none, errW_some] <;> rfl) | (simp [*, errW_none, errW_some] <;> rfl), by repeat (first | (with_reducible first | exact HB.out | apply bA | apply bN | apply bD) | exact HB.out)⟩
   rw [if_neg c23] at H
   have c23b0 : (a1.toList == ([] : List UInt8)) = false := beq_eq_false_iff_ne.mpr c23
   have c23b1 : (a1.toList != ([] : List UInt8)) = true := bne_iff_ne.mpr c23
   replace H := Option.bind_eq_some_iff.mp H
   obtain ⟨t347, A240, H⟩ := H
   replace H : (some t347) = some r := H
   have A24 := As.mk A240
   clear A240
   obtain rfl := Option.some.inj H
   go_wp2_with (first | (go_at_call 44; (with_reducible refine (majordomoref05_Word.calls kj13 a1 64 t347 _ A24.out).mono ?_); rintro e w' ⟨rfl, ⟨nd, rfl⟩⟩))
   go_ret
   exact ⟨by first | rfl | (simp [errW_none, errW_some] <;> rfl) | (simp [*, errW_none, errW_some] <;> rfl), by repeat (first | (with_reducible first | exact HB.out | apply bA | apply bN | apply bD) | exact HB.out)⟩
end Go.Proofs.YtkgafkoopefghaaGreatDoor.PA
end
