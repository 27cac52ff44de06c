/- A part of this law; its conditions stand in the last text. -/
import Derived.Test.YtkgafkoopefghaaGreatDoorRc3
import Derived.Test.YtkgafkoopefghaaGreatDoorRc5
section
set_option linter.unusedVariables false
set_option linter.unusedSimpArgs false
namespace Go.Proofs.YtkgafkoopefghaaGreatDoor.PA
open Go.RowKit Go.Proofs.YtkgafkoopefghaaGreatDoorW.PrintWords
def strings_Trim.f (a0 : ByteArray) (a1 : ByteArray) : Option (ByteArray) :=
  if a0.size ≤ 9223372036854775807 ∧ a1.size < 4294967281 ∧ a1.data.toList.all (fun b => decide (b.toNat < 128)) = true then some ⟨(Lib.trimS a0.data.toList a1.data.toList).toArray⟩ else none
theorem strings_Trim.calls (a0 : ByteArray) (a1 : ByteArray) (r : ByteArray) (w : World) (h : strings_Trim.f a0 a1 = some r) :
    Calls Tryz.prog 103 #[.string a0, .string a1] w fun e w' => e = .returned (.string r) ∧ Below w.heap.size w w' := by
  unfold strings_Trim.f at h
  by_cases c : a0.size ≤ 9223372036854775807 ∧ a1.size < 4294967281 ∧ a1.data.toList.all (fun b => decide (b.toNat < 128)) = true
  · rw [if_pos c] at h
    obtain rfl := Option.some.inj h
    exact Any.strings_Trim_laid Tryz.lays160 (by kernel_rfl) a0 a1 w c.1 c.2.1 (ascii_of_all c.2.2)
  · rw [if_neg c] at h
    cases h
theorem splitB_len (s sep : ByteArray) (h1 : 1 ≤ sep.size) : (Lib.splitB sep 0 (Lib.countB s sep) s).length = Lib.countB s sep + 1 := Lib.splitB_all sep h1 0 _ s rfl
def strings_Split.f (a0 : ByteArray) (a1 : ByteArray) : Option (List ByteArray) := if a0.size < 4294967281 ∧ 1 ≤ a1.size then some (Lib.splitB a1 0 (Lib.countB a0 a1) a0) else none
theorem strings_Split.calls (a0 : ByteArray) (a1 : ByteArray) (r : List ByteArray) (w : World) (h : strings_Split.f a0 a1 = some r) (hU : Hk.UtfOk w) :
    Calls Tryz.prog 94 #[.string a0, .string a1] w fun e w' => ∃ v0_ : Value, e = .returned (v0_) ∧ Kd.R Kd.string 9 w' w.heap.size (fun _ => True) v0_ r ∧ Below w.heap.size w w' := by
  unfold strings_Split.f at h
  by_cases c : a0.size < 4294967281 ∧ 1 ≤ a1.size
  · rw [if_pos c] at h
    obtain rfl := Option.some.inj h
    obtain ⟨m, hm⟩ := hU.2
    refine (Tryz.strings_Split a0 a1 m w c.1 hm c.2).mono ?_
    rintro e w' ⟨rfl, rfl⟩
    have hl := splitB_len a0 a1 c.2
    have hle := Lib.countB_le a1 c.2 a0.size a0 (Nat.le_refl _)
    refine ⟨_, rfl, ?_, (Below.refl _ _).alloc (Nat.le_refl _) _⟩
    refine Kd.R_of_own (enc := Value.string) (h1 := fun _ => rfl) ⟨by simp [encs], .inr ⟨w.heap.size, Lib.countB a0 a1 + 1, _, by rw [hl], Nat.le_refl _, heap_alloc_new w _, by rw [hl]; exact Nat.le_refl _, by unfold maxLen; omega, by simp [hl], ?_⟩⟩ (fun _ _ => trivial)
    rw [Nat.mul_one, List.take_of_length_le (by simp)]
    simp [encs]
  · rw [if_neg c] at h
    cases h
end Go.Proofs.YtkgafkoopefghaaGreatDoor.PA
end
