/- A part of this law; its conditions stand in the last text. -/
import Derived.Lib.SlTrimSet
import Derived.Lib.Split
import Derived.Lib.SplitLaws
section
namespace Go.Proofs.YtkgafkoopefghaaGreatDoor.Hk
def lettersW : List UInt8 := [97, 98, 99, 100, 101, 102, 103, 104, 105, 106, 107, 108, 109, 110, 111, 112, 113, 114, 115, 116, 117, 118, 119, 120, 121, 122, 65, 66, 67, 68, 69, 70, 71, 72, 73, 74, 75, 76, 77, 78, 79, 80, 81, 82, 83, 84, 85, 86, 87, 88, 89, 90, 48, 49, 50, 51, 52, 53, 54, 55, 56, 57, 46, 95, 45, 47]
def lettersN : List UInt8 := [65, 66, 67, 68, 69, 70, 71, 72, 73, 74, 75, 76, 77, 78, 79, 80, 81, 82, 83, 84, 85, 86, 87, 88, 89, 90, 97, 98, 99, 100, 101, 102, 103, 104, 105, 106, 107, 108, 109, 110, 111, 112, 113, 114, 115, 116, 117, 118, 119, 120, 121, 122, 48, 49, 50, 51, 52, 53, 54, 55, 56, 57, 46, 95, 45]
def wordB (s : ByteArray) (most : Int) : Bool := decide ((s.size : Int) ≤ most) && s.data.toList.all (lettersW.contains ·)
def nameB (s : ByteArray) : Bool := !decide (s.data.toList = []) && decide ((s.size : Int) ≤ 28) && !decide (s.data.toList = [46]) && !decide (s.data.toList = [46, 46]) && s.data.toList.all (lettersN.contains ·)
theorem dropWhile_nil (p : UInt8 → Bool) : ∀ l : List UInt8, l.dropWhile p = [] ↔ l.all p = true
  | [] => by simp
  | x :: l => by
    rw [List.dropWhile_cons]
    cases h : p x with
    | true => simp [h, dropWhile_nil p l]
    | false => simp [h]
theorem dropWhile_all (p : UInt8 → Bool) (l : List UInt8) (h : l.all p = true) : l.dropWhile p = [] := (dropWhile_nil p l).2 h
theorem all_dropWhile_rev (p : UInt8 → Bool) (l : List UInt8) (h : ((l.reverse.dropWhile p).reverse).all p = true) : l.all p = true := by

  rw [List.all_reverse] at h
  have h2 : (l.reverse.dropWhile p) = [] := by
    generalize hm : l.reverse.dropWhile p = m at h
    cases m with
    | nil => rfl
    | cons x m =>
      have hx : p x = false := by
        have := List.head?_dropWhile_not p l.reverse
        rw [hm] at this
        simpa using this
      simp [hx] at h
  have := (dropWhile_nil p l.reverse).1 h2
  rwa [List.all_reverse] at this
theorem trimS_nil (l cs : List UInt8) : Lib.trimS l cs = [] ↔ l.all (cs.contains ·) = true := by
  unfold Lib.trimS Lib.trimLeftS Lib.trimRightS
  rw [dropWhile_nil]
  constructor
  · exact all_dropWhile_rev _ l
  · intro h
    have : l.reverse.dropWhile (cs.contains ·) = [] := dropWhile_all _ _ (by rw [List.all_reverse]; exact h)
    rw [this]; rfl
theorem toList_eq (s : ByteArray) : s.toList = s.data.toList := by
  have := Lib.toList_data s
  exact this
end Go.Proofs.YtkgafkoopefghaaGreatDoor.Hk
end
