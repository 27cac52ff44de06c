/- A part of this law; its conditions stand in the last text. -/
import Derived.Test.YtkgafkoopefghaaGreatDoorCc4
import Derived.Sort.Walk0
import Derived.WalkKit
section
namespace Go.Proofs.YtkgafkoopefghaaGreatDoor.Hk
open Go.RowKit
theorem less_or_eq (x y : List UInt8) : (Op.bytesLess x y || x == y) = !(Op.bytesLess y x) := by
  rw [bytesLess_eq, bytesLess_eq, Bool.eq_iff_iff]
  simp only [Bool.or_eq_true, decide_eq_true_eq, beq_iff_eq, Bool.not_eq_true', decide_eq_false_iff_not, List.not_lt]
  exact List.le_iff_lt_or_eq.symm
theorem binOp_leq_not (t : TypeId) (a b : ByteArray) : binOp .leq t (.string a) (.string b) = pure (.bool (!(Op.bytesLess b.toList a.toList))) := by
  rw [← less_or_eq]
  simp [binOp, Op.stringOp]
end Go.Proofs.YtkgafkoopefghaaGreatDoor.Hk
end
