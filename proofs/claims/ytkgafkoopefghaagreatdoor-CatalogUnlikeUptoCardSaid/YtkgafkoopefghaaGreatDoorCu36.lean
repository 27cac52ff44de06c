/- A part of this law; its conditions stand in the last text. -/
import Derived.Test.YtkgafkoopefghaaGreatDoorCu32
import Derived.Test.YtkgafkoopefghaaGreatDoorCu35
import Derived.Test.YtkgafkoopefghaaGreatDoorCu34
section
set_option linter.unusedVariables false
set_option linter.unusedSimpArgs false
namespace Go.Proofs.YtkgafkoopefghaaGreatDoor.PA
open Go.RowKit Go.Maps Go.WideMaps Go.Proofs.YtkgafkoopefghaaGreatDoor.Hk Go.Proofs.YtkgafkoopefghaaGreatDoorW.PrintWords
theorem s24_iff (x y : S24) : x = y ↔ x.f0 = y.f0 ∧ x.f1 = y.f1 ∧ x.f2 = y.f2 := ⟨fun h => by rw [h]; exact ⟨rfl, rfl, rfl⟩, fun h => by cases x; cases y; simp only at h; rw [h.1, h.2.1, h.2.2]⟩
instance : DecidableEq S24 := fun x y => decidable_of_iff (x.f0 = y.f0 ∧ x.f1 = y.f1 ∧ x.f2 = y.f2) (s24_iff x y).symm
theorem s50_iff (x y : S50) : x = y ↔ x.f0 = y.f0 ∧ x.f1 = y.f1 ∧ x.f2 = y.f2 := ⟨fun h => by rw [h]; exact ⟨rfl, rfl, rfl⟩, fun h => by cases x; cases y; simp only at h; rw [h.1, h.2.1, h.2.2]⟩
instance : DecidableEq S50 := fun x y => decidable_of_iff (x.f0 = y.f0 ∧ x.f1 = y.f1 ∧ x.f2 = y.f2) (s50_iff x y).symm
section
variable (v : Int) (n : ByteArray) (R : List S24) (E : List S50) (v' : Int) (n' : ByteArray) (R' : List S24) (E' : List S50)
theorem same7_l1 (hl : E.length = E'.length) (hE : E.length < 2147483648) : ∀ (d i : Nat), i + d = E.length → Ev (fun k => majordomoref07_Same.l1 k (i : Int) v n R E v' n' R' E') (decide (E.drop i = E'.drop i))
  | 0, i, hd => by
    refine Ev.step (f := fun _ => some true) (fun k => ?_) ?_
    · rw [majordomoref07_Same.l1, if_neg (by omega)]
    · rw [List.drop_eq_nil_of_le (by omega), List.drop_eq_nil_of_le (by omega)]
      exact Ev.now true
  | d + 1, i, hd => by
    have h1 : i < E.length := by omega
    have h2 : i < E'.length := by omega
    have ih := same7_l1 hl hE d (i + 1) (by omega)
    refine Ev.step (f := fun k => if (!(((rd_T50 E i).f0) == ((rd_T50 E' i).f0)) || (!(((rd_T50 E i).f1) == ((rd_T50 E' i).f1)) || (!(((rd_T50 E i).f2) == ((rd_T50 E' i).f2))))) = true then (some false) else (majordomoref07_Same.l1 k ((i + 1 : Nat) : Int) v n R E v' n' R' E')) (fun k => ?_) ?_
    · rw [majordomoref07_Same.l1, if_pos (by omega), if_pos (by omega), if_pos (by omega), show wrap64 ((i : Int) + 1) = ((i + 1 : Nat) : Int) from by unfold wrap64; omega]
    · rw [rd50_at h1, rd50_at h2]
      have hd2 : (E.drop i = E'.drop i) ↔ (E[i] = E'[i] ∧ E.drop (i + 1) = E'.drop (i + 1)) := by rw [List.drop_eq_getElem_cons h1, List.drop_eq_getElem_cons h2, List.cons.injEq]
      by_cases c : E[i] = E'[i]
      · rw [c]
        simp only [beq_self_eq_true, Bool.not_true, Bool.or_self, Bool.false_eq_true, if_false]
        rw [show decide (E.drop i = E'.drop i) = decide (E.drop (i + 1) = E'.drop (i + 1)) from by rw [decide_eq_decide, hd2]; exact ⟨fun h => h.2, fun h => ⟨c, h⟩⟩]
        exact ih
      · rw [decide_eq_false (fun h => c (hd2.1 h).1)]
        have e : (!((E[i].f0) == (E'[i].f0)) || (!((E[i].f1) == (E'[i].f1)) || (!((E[i].f2) == (E'[i].f2))))) = true := by
          by_cases q0 : E[i].f0 = E'[i].f0
          · by_cases q1 : E[i].f1 = E'[i].f1
            · have q2 : ¬ E[i].f2 = E'[i].f2 := fun q2 => c ((s50_iff _ _).2 ⟨q0, q1, q2⟩)
              rw [beq_eq_false_iff_ne.2 q2]; simp
            · rw [beq_eq_false_iff_ne.2 q1]; simp
          · rw [beq_eq_false_iff_ne.2 q0]; rfl
        simp only [e, if_true]
        exact Ev.now _
theorem refsame_ev (a b : ByteArray) (l : List S31) (c d : ByteArray) (m : List S31) (hl : l.length < 2147483648) : Ev (fun k => majordomoref06_Same.f k a b l c d m) (decide (a = c ∧ b = d ∧ l = m)) := ⟨l.length + 2, fun k hk => refSame_f a b l c d m (by omega) k (by omega)⟩
theorem same7_l0 (hl : R.length = R'.length) (hlE : E.length = E'.length) (hE : E.length < 2147483648) (hR : R.length < 2147483648) (hP : ∀ x, x ∈ R → x.f2.length < 2147483648) : ∀ (d i : Nat), i + d = R.length → Ev (fun k => majordomoref07_Same.l0 k (i : Int) v n R E v' n' R' E') (decide (R.drop i = R'.drop i ∧ E = E'))
  | 0, i, hd => by
    refine Ev.step (f := fun k => majordomoref07_Same.l1 k 0 v n R E v' n' R' E') (fun k => ?_) ?_
    · rw [majordomoref07_Same.l0, if_neg (by omega)]
    · rw [List.drop_eq_nil_of_le (by omega), List.drop_eq_nil_of_le (by omega)]
      have h := same7_l1 v n R E v' n' R' E' hlE hE E.length 0 (by omega)
      rw [List.drop_zero, List.drop_zero] at h
      rw [show decide (([] : List S24) = [] ∧ E = E') = decide (E = E') from by rw [decide_eq_decide]; exact ⟨fun h => h.2, fun h => ⟨rfl, h⟩⟩]
      exact h
  | d + 1, i, hd => by
    have h1 : i < R.length := by omega
    have h2 : i < R'.length := by omega
    have ih := same7_l0 hl hlE hE hR hP d (i + 1) (by omega)
    have hd2 : (R.drop i = R'.drop i) ↔ (R[i] = R'[i] ∧ R.drop (i + 1) = R'.drop (i + 1)) := by rw [List.drop_eq_getElem_cons h1, List.drop_eq_getElem_cons h2, List.cons.injEq]
    refine Ev.step (f := fun k => ((majordomoref06_Same.f k ((rd_T24 R i).f0) ((rd_T24 R i).f1) ((rd_T24 R i).f2) ((rd_T24 R' i).f0) ((rd_T24 R' i).f1) ((rd_T24 R' i).f2)).bind fun t360 => (if t360 = true then (majordomoref07_Same.l0 k ((i + 1 : Nat) : Int) v n R E v' n' R' E') else (some false)))) (fun k => ?_) ?_
    · rw [majordomoref07_Same.l0, if_pos (by omega), if_pos (by omega), if_pos (by omega), show wrap64 ((i : Int) + 1) = ((i + 1 : Nat) : Int) from by unfold wrap64; omega]
    · rw [rd24_at h1, rd24_at h2]
      refine Ev.bind (refsame_ev _ _ _ _ _ _ (hP _ (List.getElem_mem h1))) ?_
      by_cases c : R[i] = R'[i]
      · have c2 := (s24_iff _ _).1 c
        simp only [decide_eq_true c2, if_true]
        rw [show decide (R.drop i = R'.drop i ∧ E = E') = decide (R.drop (i + 1) = R'.drop (i + 1) ∧ E = E') from by rw [decide_eq_decide, hd2]; exact ⟨fun h => ⟨h.1.2, h.2⟩, fun h => ⟨⟨c, h.1⟩, h.2⟩⟩]
        exact ih
      · rw [show decide (R.drop i = R'.drop i ∧ E = E') = false from decide_eq_false (fun h => c (hd2.1 h.1).1)]
        have c2 := fun h => c ((s24_iff (R[i]'h1) (R'[i]'h2)).2 h)
        simp only [decide_eq_false c2, Bool.false_eq_true, if_false]
        exact Ev.now _
theorem same7_ev (hE : E.length < 2147483648) (hR : R.length < 2147483648) (hP : ∀ x, x ∈ R → x.f2.length < 2147483648) : Ev (fun k => majordomoref07_Same.f k v n R E v' n' R' E') (decide (v = v' ∧ n = n' ∧ R = R' ∧ E = E')) := by
  have hj : ∀ b : Bool, b = true → Ev (fun k => majordomoref07_Same.j0 k b v n R E v' n' R' E') false := fun b hb => by
    refine Ev.step (f := fun _ => some false) (fun k => ?_) (Ev.now _)
    rw [majordomoref07_Same.j0, if_pos hb]
  unfold majordomoref07_Same.f
  by_cases c0 : v = v'
  rotate_left
  · simp only [if_neg c0]
    rw [decide_eq_false (fun h => c0 h.1)]
    exact hj true rfl
  simp only [if_pos c0]
  by_cases c1 : n.toList = n'.toList
  rotate_left
  · simp only [if_neg c1]
    rw [decide_eq_false (fun h => c1 (by rw [h.2.1]))]
    exact hj true rfl
  simp only [if_pos c1]
  by_cases c2 : (R.length : Int) = (R'.length : Int)
  rotate_left
  · simp only [if_neg c2]
    rw [decide_eq_false (fun h => c2 (by rw [h.2.2.1]))]
    exact hj true rfl
  simp only [if_pos c2]
  by_cases c3 : (E.length : Int) = (E'.length : Int)
  rotate_left
  · rw [decide_eq_false (fun h => c3 (by rw [h.2.2.2]))]
    exact hj _ (bne_iff_ne.2 c3)
  · have e : ((E.length : Int) != (E'.length : Int)) = false := bne_eq_false_iff_eq.2 c3
    rw [e]
    refine Ev.step (f := fun k => majordomoref07_Same.l0 k 0 v n R E v' n' R' E') (fun k => ?_) ?_
    · rw [majordomoref07_Same.j0, if_neg (by decide)]
    · have h := same7_l0 v n R E v' n' R' E' (by omega) (by omega) hE hR hP R.length 0 (by omega)
      rw [List.drop_zero, List.drop_zero] at h
      rw [show decide (v = v' ∧ n = n' ∧ R = R' ∧ E = E') = decide (R = R' ∧ E = E') from by rw [decide_eq_decide]; exact ⟨fun h => h.2.2, fun h => ⟨c0, toList_inj c1, h⟩⟩]
      exact h
end
end Go.Proofs.YtkgafkoopefghaaGreatDoor.PA
end
