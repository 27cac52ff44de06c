/- A part of this law; its conditions stand in the last text. -/
import Derived.Test.YtkgafkoopefghaaGreatDoorCc6
import Derived.Test.YtkgafkoopefghaaGreatDoorCc9
section
namespace Go.Proofs.YtkgafkoopefghaaGreatDoor.PA
open Go.RowKit Go.Proofs.YtkgafkoopefghaaGreatDoorW.PrintWords Go.Proofs.YtkgafkoopefghaaGreatDoorW.PrintLast Go.Proofs.YtkgafkoopefghaaGreatDoorW.PrintMore
open Go.Proofs.YtkgafkoopefghaaGreatDoor.Hk
attribute [local go_sem high] Go.Proofs.YtkgafkoopefghaaGreatDoor.Hk.binOp_leq_not
attribute [local go_sem] max2_int min2_int max_two min_two max_three min_three max_four min_four
set_option linter.unusedVariables false
set_option linter.unusedSimpArgs false
theorem info31 : (Tryz.prog.info? 31).map (fun i => (i.zero, i.size, i.bytes)) = some (some (.agg #[(.string ⟨#[]⟩), (.string ⟨#[]⟩)]), 2, 32) := by kernel_rfl
theorem info50 : (Tryz.prog.info? 50).map (fun i => (i.zero, i.size, i.bytes)) = some (some (.agg #[(.int .i64 0), (.int .i64 0), (.bool false)]), 3, 24) := by kernel_rfl
def majordomolaw07_lent.l0 : Nat → Int → Int → ByteArray → List (S24) → List (S50) → Int → ByteArray → List (S24) → List (S50) → Option (Int × ByteArray × (List (S24)) × (List (S50)))
  | 0, _, _, _, _, _, _, _, _, _ => none
  | k + 1, x4, x341000, x341001, x341002, x341003, x343000, x343001, x343002, x343003 => if x4 < (x341002.length : Int) then (if 0 ≤ x4 then ((some (([] : List (S31)) : List (S31))).bind fun y345 => (if y345.length + ((rd_T24 x341002 x4).f2).length < 4398046511104 then (if x343002.length < 2513169434916 then (majordomolaw07_lent.l0 k (wrap64 (x4 + 1)) x341000 x341001 x341002 x341003 x343000 x343001 (x343002 ++ [(⟨(rd_T24 x341002 x4).f0, (rd_T24 x341002 x4).f1, (y345 ++ ((rd_T24 x341002 x4).f2))⟩ : S24)]) x343003) else (none)) else (none))) else (none)) else ((some (([] : List (S50)) : List (S50))).bind fun y355 => (if y355.length + x341003.length < 5864062014805 then (some (x343000, x343001, x343002, (y355 ++ x341003))) else (none)))
def majordomolaw07_lent.f (k : Nat) (a0_0 : Int) (a0_1 : ByteArray) (l0_2 : List (S24)) (l0_3 : List (S50)) : Option (Int × ByteArray × (List (S24)) × (List (S50))) := majordomolaw07_lent.l0 k 0 a0_0 a0_1 l0_2 l0_3 a0_0 a0_1 ([] : List (S24)) l0_3
end Go.Proofs.YtkgafkoopefghaaGreatDoor.PA
end
