/- A part of this law; its conditions stand in the last text. -/
import Derived.Test.YtkgafkoopefghaaGreatDoorRc29
import Derived.Test.YtkgafkoopefghaaGreatDoorRc7
section
set_option linter.unusedVariables false
set_option linter.unusedSimpArgs false
namespace Go.Proofs.YtkgafkoopefghaaGreatDoor.PA
open Go.RowKit Go.Proofs.YtkgafkoopefghaaGreatDoor.Hk Go.Proofs.YtkgafkoopefghaaGreatDoorW.PrintWords
theorem bt_get (s : ByteArray) (i : Nat) (h : i < s.data.toList.length) : bt s (i : Int) = ((s.data.toList[i]).toNat : Int) := by
  have hs : i < s.size := by rw [ByteArray.size]; simpa using h
  unfold bt
  rw [dif_pos (by simpa using hs)]
  rfl
theorem drop_at {l : List UInt8} {i : Nat} (h : i < l.length) : l.drop i = l[i] :: l.drop (i + 1) := List.drop_eq_getElem_cons h
theorem size_len (s : ByteArray) : s.size = s.data.toList.length := by rw [ByteArray.size]; simp
theorem wrap_next {i n : Nat} (h : i < n) (hn : n ≤ 9223372036854775806) : wrap64 ((i : Int) + 1) = ((i + 1 : Nat) : Int) := by unfold wrap64; omega
theorem okW_mem (b : UInt8) : okW (b.toNat : Int) = lettersW.contains b := by
  have h : ∀ n : Fin 256, okW ((n.val : Nat) : Int) = lettersW.contains (UInt8.ofNat n.val) := by decide +kernel
  have := h ⟨b.toNat, UInt8.toNat_lt b⟩
  simpa using this
theorem okN_mem (b : UInt8) : okN (b.toNat : Int) = lettersN.contains b := by
  have h : ∀ n : Fin 256, okN ((n.val : Nat) : Int) = lettersN.contains (UInt8.ofNat n.val) := by decide +kernel
  have := h ⟨b.toNat, UInt8.toNat_lt b⟩
  simpa using this
set_option maxHeartbeats 4000000 in
theorem word_step (k : Nat) (s : ByteArray) (m x : Int) (h0 : 0 ≤ x) : majordomoref05_Word.l0 (k + 1) s m x = if x < (s.size : Int) then (if okW (bt s x) = true then majordomoref05_Word.l0 k s m (wrap64 (x + 1)) else some false) else some (decide ((s.size : Int) ≤ m)) := by
  by_cases hx : x < (s.size : Int)
  · rw [if_pos hx]; exact word_go k s m x hx h0
  · rw [majordomoref05_Word.l0, if_neg hx, if_neg hx]
theorem word_from (s : ByteArray) (m : Int) (hs : s.size ≤ 9223372036854775806) : ∀ (d k i : Nat), i + d = s.size → d < k → majordomoref05_Word.l0 k s m i = some (decide ((s.size : Int) ≤ m) && (s.data.toList.drop i).all (lettersW.contains ·))
  | d, 0, i, h, hk => by omega
  | 0, k + 1, i, h, hk => by
    rw [word_step _ _ _ _ (by omega), if_neg (by omega), List.drop_eq_nil_of_le (by rw [← size_len]; omega)]
    simp
  | d + 1, k + 1, i, h, hk => by
    have hl : i < s.data.toList.length := by rw [← size_len]; omega
    rw [word_step _ _ _ _ (by omega), if_pos (by omega), bt_get s i hl, okW_mem, drop_at hl, wrap_next (by omega : i < s.size) hs]
    by_cases hc : lettersW.contains s.data.toList[i] = true
    · rw [if_pos hc, word_from s m hs d k (i + 1) (by omega) (by omega), List.all_cons, hc, Bool.true_and]
    · rw [if_neg hc, List.all_cons, Bool.eq_false_iff.2 hc]
      simp
theorem refWord_f (s : ByteArray) (m : Int) (hs : s.size ≤ 9223372036854775806) (k : Nat) (hk : s.size < k) : majordomoref05_Word.f k s m = some (wordB s m) := by
  have := word_from s m hs s.size k 0 (by omega) hk
  rw [List.drop_zero] at this
  exact this
set_option maxHeartbeats 4000000 in
theorem name_step (k : Nat) (s : ByteArray) (x : Int) (h0 : 0 ≤ x) : majordomoref03_Name.l0 (k + 1) s x = if x < (s.size : Int) then (if okN (bt s x) = true then majordomoref03_Name.l0 k s (wrap64 (x + 1)) else some false) else some (!decide (s.data.toList = []) && decide ((s.size : Int) ≤ 28) && !decide (s.data.toList = [46]) && !decide (s.data.toList = [46, 46])) := by
  by_cases hx : x < (s.size : Int)
  · rw [if_pos hx]; exact name_go k s x hx h0
  · rw [majordomoref03_Name.l0, if_neg hx, if_neg hx]
    rw [toList_eq]
    have e1 : ((s.size : Int) ≥ 1) ↔ ¬ s.data.toList = [] := by
      rw [size_len]
      cases s.data.toList with
      | nil => simp
      | cons a l => simp; omega
    by_cases c1 : s.data.toList = []
    · rw [if_neg (by rw [e1]; simp [c1]), decide_eq_true c1]; rfl
    rw [if_pos (e1.2 c1), decide_eq_false c1]
    by_cases c2 : (s.size : Int) ≤ 28
    · rw [if_pos c2, decide_eq_true c2]
      by_cases c3 : s.data.toList = [46]
      · rw [if_pos c3, decide_eq_true c3]; rfl
      · rw [if_neg c3, decide_eq_false c3]
        by_cases c4 : s.data.toList = [46, 46]
        · rw [decide_eq_true c4, bne_eq_false_iff_eq.2 c4]; rfl
        · rw [decide_eq_false c4, bne_iff_ne.2 c4]; rfl
    · rw [if_neg c2, decide_eq_false c2]; rfl
theorem name_from (s : ByteArray) (hs : s.size ≤ 9223372036854775806) : ∀ (d k i : Nat), i + d = s.size → d < k → majordomoref03_Name.l0 k s i = some ((!decide (s.data.toList = []) && decide ((s.size : Int) ≤ 28) && !decide (s.data.toList = [46]) && !decide (s.data.toList = [46, 46])) && (s.data.toList.drop i).all (lettersN.contains ·))
  | d, 0, i, h, hk => by omega
  | 0, k + 1, i, h, hk => by
    rw [name_step _ _ _ (by omega), if_neg (by omega), List.drop_eq_nil_of_le (by rw [← size_len]; omega), List.all_nil, Bool.and_true]
  | d + 1, k + 1, i, h, hk => by
    have hl : i < s.data.toList.length := by rw [← size_len]; omega
    rw [name_step _ _ _ (by omega), if_pos (by omega), bt_get s i hl, okN_mem, drop_at hl, wrap_next (by omega : i < s.size) hs]
    by_cases hc : lettersN.contains s.data.toList[i] = true
    · rw [if_pos hc, name_from s hs d k (i + 1) (by omega) (by omega), List.all_cons, hc, Bool.true_and]
    · rw [if_neg hc, List.all_cons, Bool.eq_false_iff.2 hc, Bool.false_and, Bool.and_false]
theorem refName_f (s : ByteArray) (hs : s.size ≤ 9223372036854775806) (k : Nat) (hk : s.size < k) : majordomoref03_Name.f k s = some (nameB s) := by
  have := name_from s hs s.size k 0 (by omega) hk
  rw [List.drop_zero] at this
  exact this
end Go.Proofs.YtkgafkoopefghaaGreatDoor.PA
end
