/- A part of this law; its conditions stand in the last text. -/
import Derived.Test.YtkgafkoopefghaaGreatDoorCs32
import Derived.Test.YtkgafkoopefghaaGreatDoorCs36
section
set_option linter.unusedVariables false
set_option linter.unusedSimpArgs false
namespace Go.Proofs.YtkgafkoopefghaaGreatDoor.PA
open Go.RowKit Go.Maps Go.WideMaps Go.Proofs.YtkgafkoopefghaaGreatDoor.Hk Go.Proofs.YtkgafkoopefghaaGreatDoorW.PrintWords
theorem lent_l0 {v : Int} {n : ByteArray} {R : List S24} {E : List S50} (hR : R.length < 2147483648) (hE : E.length < 2147483648) (hP : ∀ x, x ∈ R → x.f2.length < 2147483648) : ∀ (d i : Nat), i + d = R.length → Ev (fun k => majordomolaw07_lent.l0 k (i : Int) v n R E v n (R.take i) E) (v, n, R, E)
  | 0, i, hd => by
    refine Ev.step (f := fun _ => some (v, n, R, E)) (fun k => ?_) (Ev.now _)
    rw [majordomolaw07_lent.l0, if_neg (by omega), Option.bind_some, if_pos (by simp only [List.length_nil]; omega), List.take_of_length_le (by omega)]
    rfl
  | d + 1, i, hd => by
    have hi : i < R.length := by omega
    refine Ev.step (f := fun k => majordomolaw07_lent.l0 k ((i + 1 : Nat) : Int) v n R E v n (R.take (i + 1)) E) (fun k => ?_) (lent_l0 hR hE hP d (i + 1) (by omega))
    have h2 := hP _ (List.getElem_mem hi)
    rw [majordomolaw07_lent.l0, if_pos (by omega), if_pos (by omega), Option.bind_some, rd24_at hi, if_pos (by simp only [List.length_nil]; omega), if_pos (by rw [List.length_take]; omega), show wrap64 ((i : Int) + 1) = ((i + 1 : Nat) : Int) from by unfold wrap64; omega, List.take_add_one, List.getElem?_eq_getElem hi]
    rfl
theorem lent_ev {v : Int} {n : ByteArray} {R : List S24} {E : List S50} (h : fitC v n R E = true) : Ev (fun k => majordomolaw07_lent.f k v n R E) (v, n, R, E) := by
  have f := fitC_out h
  unfold majordomolaw07_lent.f
  exact lent_l0 f.2.2.1 f.2.2.2.1 (fun x hx => (fitR_at f.2.1 hx).2.2.1) R.length 0 (by omega)
end Go.Proofs.YtkgafkoopefghaaGreatDoor.PA
end
