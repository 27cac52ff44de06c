/- A part of this law; its conditions stand in the last text. -/
import Derived.Test.YtkgafkoopefghaaGreatDoorCs34
import Derived.Test.YtkgafkoopefghaaGreatDoorCs29
import Derived.Test.YtkgafkoopefghaaGreatDoorCs32
section
set_option linter.unusedVariables false
set_option linter.unusedSimpArgs false
namespace Go.Proofs.YtkgafkoopefghaaGreatDoor.PA
open Go.RowKit Go.Maps Go.WideMaps Go.Proofs.YtkgafkoopefghaaGreatDoor.Hk Go.Proofs.YtkgafkoopefghaaGreatDoorW.PrintWords
theorem s31_iff (x y : S31) : x = y ↔ x.f0 = y.f0 ∧ x.f1 = y.f1 := ⟨fun h => by rw [h]; exact ⟨rfl, rfl⟩, fun h => by cases x; cases y; simp only at h; rw [h.1, h.2]⟩
instance : DecidableEq S31 := fun x y => decidable_of_iff (x.f0 = y.f0 ∧ x.f1 = y.f1) (s31_iff x y).symm
end Go.Proofs.YtkgafkoopefghaaGreatDoor.PA
end
section
set_option linter.unusedVariables false
set_option linter.unusedSimpArgs false
namespace Go.Proofs.YtkgafkoopefghaaGreatDoor.PA
open Go.RowKit Go.Maps Go.WideMaps Go.Proofs.YtkgafkoopefghaaGreatDoor.Hk Go.Proofs.YtkgafkoopefghaaGreatDoorW.PrintWords
section
variable {v : Int} {node : ByteArray} {R : List S24} {E : List S50}
theorem len_mem {α : Type} {f : α → List Int} {l : List α} {a : α} (h : a ∈ l) : (f a).length ≤ (l.flatMap f).length := by
  obtain ⟨i, hi, rfl⟩ := List.mem_iff_getElem.1 h
  have := flat_len (f := f) hi
  omega
theorem bytesC_len : (bytesC v node R E).length = 6 + node.size + (R.flatMap resC).length + (E.flatMap edgeC).length := by
  unfold bytesC
  simp only [List.length_append, List.length_cons, List.length_nil, txtC_len]
  omega
end
end Go.Proofs.YtkgafkoopefghaaGreatDoor.PA
end
section
set_option linter.unusedVariables false
set_option linter.unusedSimpArgs false
namespace Go.Proofs.YtkgafkoopefghaaGreatDoor.PA
open Go.RowKit Go.Maps Go.WideMaps Go.Proofs.YtkgafkoopefghaaGreatDoor.Hk Go.Proofs.YtkgafkoopefghaaGreatDoorW.PrintWords
def swapL {α : Type} (z : α) (l : List α) (p q : Nat) : List α := (l.set p (l.getD q z)).set q (l.getD p z)
theorem swapL_len {α : Type} {z : α} {l : List α} {p q : Nat} : (swapL z l p q).length = l.length := by unfold swapL; simp
theorem swapL_mem {α : Type} {z : α} {l : List α} {p q : Nat} (hp : p < l.length) (hq : q < l.length) {a : α} (h : a ∈ swapL z l p q) : a ∈ l := by
  unfold swapL at h
  have g : ∀ i, i < l.length → l.getD i z ∈ l := fun i hi => by rw [List.getD_eq_getElem?_getD, List.getElem?_eq_getElem hi]; exact List.getElem_mem hi
  rcases List.mem_or_eq_of_mem_set h with h | h
  · rcases List.mem_or_eq_of_mem_set h with h | h
    · exact h
    · rw [h]; exact g q hq
  · rw [h]; exact g p hp
theorem swapL_q {α : Type} {z : α} {l : List α} {p q : Nat} (hq : q < l.length) : (swapL z l p q).getD q z = l.getD p z := by
  unfold swapL
  rw [List.getD_eq_getElem?_getD, List.getElem?_set_self (by simpa using hq)]
  rfl
theorem swapL_p {α : Type} {z : α} {l : List α} {p q : Nat} (hp : p < l.length) (hpq : p ≠ q) : (swapL z l p q).getD p z = l.getD q z := by
  unfold swapL
  rw [List.getD_eq_getElem?_getD, List.getElem?_set_ne (fun e => hpq e.symm), List.getElem?_set_self hp]
  rfl
theorem flat_max {α : Type} {f : α → List Int} {m : Nat} : ∀ {l : List α}, (∀ a, a ∈ l → (f a).length ≤ m) → (l.flatMap f).length ≤ l.length * m
  | [], _ => by simp
  | a :: l, h => by
    have h1 := h a (by simp)
    have h2 := flat_max (l := l) (fun b hb => h b (by simp [hb]))
    rw [List.flatMap_cons, List.length_append, List.length_cons, Nat.add_mul]
    omega
section
variable {v : Int} {n : ByteArray} {R : List S24} {E : List S50}
theorem fit_R (hf : fitC v n R E = true) (h : checkC v n R E = 0) {R' : List S24} (hl : R'.length = R.length) (hm : ∀ r, r ∈ R' → r ∈ R) : fitC v n R' E = true := by
  obtain ⟨f1, f2, f3, f4, f5⟩ := fitC_out hf
  have z := checkC_zero h
  have hb := z.2.2.2.2.2.2.2
  rw [bytesC_len] at hb
  have hmax := flat_max (f := resC) (m := 2432) (l := R') (fun r hr => by
    have := len_mem (f := resC) (hm r hr)
    omega)
  have h32 := z.2.2.2.1
  unfold fitC fitR
  simp only [Bool.and_eq_true, decide_eq_true_eq]
  refine ⟨⟨⟨f1, by omega, List.all_eq_true.2 fun x hx => ?_⟩, f4⟩, ?_⟩
  · obtain ⟨a1, a2, a3, a4⟩ := fitR_at f2 (hm x hx)
    simp only [Bool.and_eq_true, decide_eq_true_eq]
    exact ⟨⟨⟨a1, a2⟩, a3⟩, a4⟩
  · rw [bytesC_len]
    have : R'.length * 2432 ≤ 32 * 2432 := Nat.mul_le_mul_right _ (by omega)
    omega
theorem fit_E (hf : fitC v n R E = true) (h : checkC v n R E = 0) {E' : List S50} (hl : E'.length = E.length) : fitC v n R E' = true := by
  obtain ⟨f1, f2, f3, f4, f5⟩ := fitC_out hf
  have z := checkC_zero h
  have hb := z.2.2.2.2.2.2.2
  rw [bytesC_len] at hb
  have hmax := flat_max (f := edgeC) (m := 3) (l := E') (fun r hr => by unfold edgeC; simp)
  have h96 := z.2.2.2.2.1
  unfold fitC
  simp only [Bool.and_eq_true, decide_eq_true_eq]
  refine ⟨⟨⟨f1, f2⟩, by omega⟩, ?_⟩
  rw [bytesC_len]
  omega
theorem less_irr (a : S24) : lessS a a ≠ true := by
  rw [Ne, less_iff]
  rintro (h | ⟨_, h⟩) <;> exact List.lt_irrefl _ h
theorem rise_at {R : List S24} (h : ∀ j, j < R.length → stepC R j = none) {p q : Nat} (hpq : p < q) (hq : q < R.length) : lessS (R.getD p z24) (R.getD q z24) = true := by
  obtain ⟨d, rfl⟩ : ∃ d, q = p + d + 1 := ⟨q - p - 1, by omega⟩
  have := less_rise h d p hq
  unfold rd_T24 at this
  rw [Int.toNat_natCast, Int.toNat_natCast] at this
  exact this
theorem swapR_bad (h : checkC v n R E = 0) {p q : Nat} (hp : p < R.length) (hq : q < R.length) (hpq : p ≠ q) : checkC v n (swapL z24 R p q) E ≠ 0 := by
  intro h2
  have a := (checkC_zero h).2.2.2.2.2.1
  have b := (checkC_zero h2).2.2.2.2.2.1
  rcases Nat.lt_or_gt_of_ne hpq with c | c
  · have x := rise_at a c hq
    have y := rise_at b c (by rw [swapL_len]; exact hq)
    rw [swapL_p hp hpq, swapL_q hq] at y
    exact less_irr _ (less_trans x y)
  · have x := rise_at a c hp
    have y := rise_at b c (by rw [swapL_len]; exact hp)
    rw [swapL_p hp hpq, swapL_q hq] at y
    exact less_irr _ (less_trans x y)
theorem edge_behind {E : List S50} {m : Int} {i : Nat} (h : edgeOk m E i = true) (hi : 0 < i) : behindS (rd_T50 E (i : Int)) (rd_T50 E ((i - 1 : Nat) : Int)) = true := by
  unfold edgeOk at h
  by_cases c1 : mn (rd_T50 E (i : Int)).f0 (rd_T50 E (i : Int)).f1 < 0
  · rw [if_pos c1] at h; cases h
  rw [if_neg c1] at h
  by_cases c2 : mx (rd_T50 E (i : Int)).f0 (rd_T50 E (i : Int)).f1 ≥ m
  · rw [if_pos c2] at h; cases h
  rw [if_neg c2] at h
  by_cases c3 : (rd_T50 E (i : Int)).f0 = (rd_T50 E (i : Int)).f1
  · rw [if_pos c3] at h; cases h
  rw [if_neg c3, if_neg (by omega)] at h
  exact h
theorem behind_iff (a b : S50) : behindS a b = true ↔ b.f0 < a.f0 ∨ (a.f0 = b.f0 ∧ b.f1 < a.f1) := by
  unfold behindS
  by_cases c : a.f0 > b.f0
  · rw [if_pos c]; exact ⟨fun _ => .inl c, fun _ => rfl⟩
  · rw [if_neg c]
    by_cases c2 : a.f0 = b.f0
    · rw [if_pos c2, decide_eq_true_iff]
      constructor
      · exact fun h => .inr ⟨c2, h⟩
      · rintro (h | h)
        · omega
        · exact h.2
    · rw [if_neg c2]
      constructor
      · intro h; cases h
      · rintro (h | h) <;> omega
theorem edge_rise {E : List S50} {m : Int} (h : ∀ j, j < E.length → edgeOk m E j = true) : ∀ (d i : Nat), i + d + 1 < E.length → behindS (rd_T50 E ((i + d + 1 : Nat) : Int)) (rd_T50 E (i : Int)) = true
  | 0, i, hi => edge_behind (h (i + 1) hi) (by omega)
  | d + 1, i, hi => by
    have a := (behind_iff _ _).1 (edge_rise h d i (by omega))
    have b := (behind_iff _ _).1 (edge_behind (h (i + (d + 1) + 1) hi) (by omega))
    have e : i + (d + 1) + 1 - 1 = i + d + 1 := by omega
    rw [e] at b
    rw [behind_iff]
    omega
theorem erise_at {E : List S50} {m : Int} (h : ∀ j, j < E.length → edgeOk m E j = true) {p q : Nat} (hpq : p < q) (hq : q < E.length) : behindS (E.getD q z50) (E.getD p z50) = true := by
  obtain ⟨d, rfl⟩ : ∃ d, q = p + d + 1 := ⟨q - p - 1, by omega⟩
  have := edge_rise h d p hq
  unfold rd_T50 at this
  rw [Int.toNat_natCast, Int.toNat_natCast] at this
  exact this
theorem loopC_all {rest : Int} : ∀ (d i : Nat), (∀ j, i ≤ j → j < i + d → stepC R j = none) → loopC R rest d i = rest
  | 0, i, _ => rfl
  | d + 1, i, h => by
    unfold loopC
    rw [h i (by omega) (by omega)]
    exact loopC_all d (i + 1) (fun j h1 h2 => h j (by omega) (by omega))
theorem loopE_bad {m rest : Int} : ∀ (d i : Nat), (∃ j, i ≤ j ∧ j < i + d ∧ edgeOk m E j = false) → loopE m E rest d i = 72
  | 0, i, ⟨j, h1, h2, _⟩ => by omega
  | d + 1, i, ⟨j, h1, h2, h3⟩ => by
    unfold loopE
    by_cases c : edgeOk m E i = true
    · rw [if_pos c]
      refine loopE_bad d (i + 1) ⟨j, ?_, by omega, h3⟩
      by_cases e : j = i
      · subst e; rw [h3] at c; cases c
      · omega
    · rw [if_neg c]
theorem not_blocked (h : checkC v n R E = 0) : blockedS R = false := by
  have z := checkC_zero h
  unfold checkC at h
  rw [if_neg (fun q => by
    rcases q with q | q | q
    · have := z.1; omega
    · have := z.2.1; omega
    · rw [z.2.2.1] at q; cases q), if_neg (by have := z.2.2.2.1; omega), if_neg (by have := z.2.2.2.2.1; omega), loopC_all _ _ (fun j _ hj => z.2.2.2.2.2.1 j (by omega))] at h
  unfold restC at h
  by_cases c : blockedS R = true
  · rw [if_pos c] at h; cases h
  · simpa using c
theorem swapE_bad (h : checkC v n R E = 0) {p q : Nat} (hp : p < E.length) (hq : q < E.length) (hpq : p ≠ q) : checkC v n R (swapL z50 E p q) = 72 := by
  have z := checkC_zero h
  unfold checkC
  rw [if_neg (fun q => by
    rcases q with q | q | q
    · have := z.1; omega
    · have := z.2.1; omega
    · rw [z.2.2.1] at q; cases q), if_neg (by have := z.2.2.2.1; omega), if_neg (by rw [swapL_len]; have := z.2.2.2.2.1; omega), loopC_all _ _ (fun j _ hj => z.2.2.2.2.2.1 j (by omega))]
  unfold restC
  rw [not_blocked h, if_neg (by decide)]
  unfold edgesC
  refine loopE_bad _ _ ?_
  refine Classical.byContradiction fun hno => ?_
  have b : ∀ j, j < (swapL z50 E p q).length → edgeOk (R.length : Int) (swapL z50 E p q) j = true := fun j hj => by
    cases c : edgeOk (R.length : Int) (swapL z50 E p q) j with
    | true => rfl
    | false => exact absurd ⟨j, by omega, by omega, c⟩ hno
  have a := z.2.2.2.2.2.2.1
  rcases Nat.lt_or_gt_of_ne hpq with c | c
  · have x := (behind_iff _ _).1 (erise_at a c hq)
    have y := (behind_iff _ _).1 (erise_at b c (by rw [swapL_len]; exact hq))
    rw [swapL_p hp hpq, swapL_q hq] at y
    omega
  · have x := (behind_iff _ _).1 (erise_at a c hp)
    have y := (behind_iff _ _).1 (erise_at b c (by rw [swapL_len]; exact hp))
    rw [swapL_p hp hpq, swapL_q hq] at y
    omega
end
end Go.Proofs.YtkgafkoopefghaaGreatDoor.PA
end
