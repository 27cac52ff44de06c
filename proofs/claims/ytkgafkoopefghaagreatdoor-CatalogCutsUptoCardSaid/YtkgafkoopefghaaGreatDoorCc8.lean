/- A part of this law; its conditions stand in the last text. -/
import Derived.Test.YtkgafkoopefghaaGreatDoorCc1
section
namespace Go.Proofs.YtkgafkoopefghaaGreatDoor.Hk
open Go.RowKit Go.Proofs.YtkgafkoopefghaaGreatDoorW.PrintWords Go.Proofs.YtkgafkoopefghaaGreatDoorW.PrintLast Go.Proofs.YtkgafkoopefghaaGreatDoorW.PrintMore
def upB (n k : Nat) : Array Bool := (List.replicate k true ++ List.replicate (n - k) false).toArray
section
variable {P : Program} {ops : Array Oper} {Q : Exit → Act → World → Prop} {md : Region.Mode} {S : World → Prop} {ds : List Nat} {T : Bool × List (List Nat × List Nat)} {B : List Nat}
theorem sP_ (k N : Nat) {n : Nat} {oi : Oper} {v : Value} {fuel : Nat} {a : Act} {w : World} (hT : As (rtab md ops = T)) (hi : ops[k]? = some oi := by rfl) (hN : oi.dst = some N := by rfl) (hc : anyT T (upB n k).toList (upB n (k + 1)).toList k = true := by kernel_rfl)
    (hQ : ∀ c a w, Q (.panic c) (a.put oi.dst v) w → Q (.panic c) a w := by exact fun _ _ _ h => h) (hw : Region.wanted oi (yielded ops a.tmps) = true := by rfl) (hy : ∀ w', (execOp a.eval oi).run P w' = .ok (.value v) w') {a' : Act} (ha : a.put (some N) v = a')
    (h : wpAnyLast P md ops Q S ds fuel (upB n (k + 1)) a' w) : wpAnyLast P md ops Q S ds (fuel + 1) (upB n k) a w :=
  pure_ _ hi hN (any_of hT.out hc) hQ (Or.inl ⟨hw, hy⟩) ha h
theorem sN_ (k N : Nat) {n : Nat} {oi : Oper} {fuel : Nat} {a : Act} {w : World} (hT : As (rtab md ops = T)) (hi : ops[k]? = some oi := by rfl) (hN : oi.dst = some N := by rfl) (hw : Region.wanted oi (yielded ops a.tmps) = false := by rfl) (hc : anyT T (upB n k).toList (upB n (k + 1)).toList k = true := by kernel_rfl)
    (hQ : ∀ c a w, Q (.panic c) (a.put oi.dst undef) w → Q (.panic c) a w := by exact fun _ _ _ h => h) {a' : Act} (ha : a.put (some N) undef = a')
    (h : wpAnyLast P md ops Q S ds fuel (upB n (k + 1)) a' w) : wpAnyLast P md ops Q S ds (fuel + 1) (upB n k) a w :=
  pure_ _ hi hN (any_of hT.out hc) hQ (Or.inr ⟨hw, rfl⟩) ha h
theorem sT_ (k N : Nat) {n : Nat} {oi : Oper} {v : Value} {fuel : Nat} {a : Act} {w : World} (hT : As (rtab md ops = T)) (hB : As (waitsOk T.2 B = true)) (hS : S w) (hi : ops[k]? = some oi := by rfl) (hN : oi.dst = some N := by rfl) (hc : takeW T B ds (upB n k).toList (upB n (k + 1)).toList k = true := by kernel_rfl)
    (hQ : ∀ c a w, Q (.panic c) (a.put oi.dst v) w → Q (.panic c) a w := by exact fun _ _ _ h => h) (hw : Region.wanted oi (yielded ops a.tmps) = true := by rfl) (hy : ∀ w', S w' → (execOp a.eval oi).run P w' = .ok (.value v) w') {a' : Act} (ha : a.put (some N) v = a')
    (h : wpAnyLast P md ops Q S ds fuel (upB n (k + 1)) a' w) : wpAnyLast P md ops Q S ds (fuel + 1) (upB n k) a w :=
  take_ _ hi hN (take_ofW hT.out hB.out hc) hQ (Or.inl ⟨hw, hy⟩) hS ha h
end
end Go.Proofs.YtkgafkoopefghaaGreatDoor.Hk
end
