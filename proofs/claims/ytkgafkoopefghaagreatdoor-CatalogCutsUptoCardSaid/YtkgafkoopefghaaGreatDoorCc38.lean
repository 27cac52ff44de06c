/- A part of this law; its conditions stand in the last text. -/
import Derived.Test.YtkgafkoopefghaaGreatDoorCc6
import Derived.Test.YtkgafkoopefghaaGreatDoorCc9
section
namespace Go.Proofs.YtkgafkoopefghaaGreatDoor.PA
open Go.RowKit Go.Proofs.YtkgafkoopefghaaGreatDoorW.PrintWords Go.Proofs.YtkgafkoopefghaaGreatDoorW.PrintLast Go.Proofs.YtkgafkoopefghaaGreatDoorW.PrintMore
open Go.Proofs.YtkgafkoopefghaaGreatDoor.Hk
attribute [local go_sem high] Go.Proofs.YtkgafkoopefghaaGreatDoor.Hk.binOp_leq_not
attribute [local go_sem] max2_int min2_int max_two min_two max_three min_three max_four min_four
set_option linter.unusedVariables false
set_option linter.unusedSimpArgs false
attribute [local go_sem high] eqA31
mutual
def majordomoref06_Same.j0 : Nat → Bool → ByteArray → ByteArray → List (S31) → ByteArray → ByteArray → List (S31) → Option (Bool)
 | 0, _, _, _, _, _, _, _ => none
 | k + 1, x26, x353000, x353001, x353002, x354000, x354001, x354002 => if x26 = true then (some false) else (majordomoref06_Same.l0 k 0 x353000 x353001 x353002 x354000 x354001 x354002)
def majordomoref06_Same.l0 : Nat → Int → ByteArray → ByteArray → List (S31) → ByteArray → ByteArray → List (S31) → Option (Bool)
 | 0, _, _, _, _, _, _, _ => none
 | k + 1, x5, x353000, x353001, x353002, x354000, x354001, x354002 => if x5 < (x353002.length : Int) then (if 0 ≤ x5 then (if x5 < (x354002.length : Int) then (if (!((((rd_T31 x353002 x5).f0).toList) == (((rd_T31 x354002 x5).f0).toList)) || (!((((rd_T31 x353002 x5).f1).toList) == (((rd_T31 x354002 x5).f1).toList)))) = true then (some false) else (majordomoref06_Same.l0 k (wrap64 (x5 + 1)) x353000 x353001 x353002 x354000 x354001 x354002)) else (none)) else (none)) else (some true)
end
def majordomoref06_Same.f (k : Nat) (a0_0 : ByteArray) (a0_1 : ByteArray) (l0_2 : List (S31)) (a1_0 : ByteArray) (a1_1 : ByteArray) (l1_2 : List (S31)) : Option (Bool) := if a0_0.toList = a1_0.toList then (if a0_1.toList = a1_1.toList then (majordomoref06_Same.j0 k ((l0_2.length : Int) != (l1_2.length : Int)) a0_0 a0_1 l0_2 a1_0 a1_1 l1_2) else (majordomoref06_Same.j0 k true a0_0 a0_1 l0_2 a1_0 a1_1 l1_2)) else (majordomoref06_Same.j0 k true a0_0 a0_1 l0_2 a1_0 a1_1 l1_2)
end Go.Proofs.YtkgafkoopefghaaGreatDoor.PA
end
