/- A part of this law; its conditions stand in the last text. -/
import Derived.Test.YtkgafkoopefghaaGreatDoorRc32
import Derived.Test.YtkgafkoopefghaaGreatDoorRc27
import Derived.Test.YtkgafkoopefghaaGreatDoorRc33
import Derived.Test.YtkgafkoopefghaaGreatDoorRc35
section
set_option linter.unusedVariables false
set_option linter.unusedSimpArgs false
namespace Go.Proofs.YtkgafkoopefghaaGreatDoor.PA
open Go.RowKit Go.Maps Go.WideMaps Go.Proofs.YtkgafkoopefghaaGreatDoor.Hk Go.Proofs.YtkgafkoopefghaaGreatDoorW.PrintWords
theorem s31_iff (x y : S31) : x = y ↔ x.f0 = y.f0 ∧ x.f1 = y.f1 := ⟨fun h => by rw [h]; exact ⟨rfl, rfl⟩, fun h => by cases x; cases y; simp only at h; rw [h.1, h.2]⟩
instance : DecidableEq S31 := fun x y => decidable_of_iff (x.f0 = y.f0 ∧ x.f1 = y.f1) (s31_iff x y).symm
theorem beq_byt (s t : ByteArray) : (s.toList == t.toList) = decide (s = t) := by
  rw [Bool.eq_iff_iff, beq_iff_eq, decide_eq_true_iff, toList_eq t]
  exact byt_iff
theorem same_from (a b : ByteArray) (l : List S31) (c d : ByteArray) (m : List S31) (hlen : l.length = m.length) (hl : l.length ≤ 9223372036854775806) : ∀ (n k i : Nat), i + n = l.length → n < k →
    majordomoref06_Same.l0 k i a b l c d m = some (decide (l.drop i = m.drop i))
  | n, 0, i, h, hk => by omega
  | 0, k + 1, i, h, hk => by
    rw [majordomoref06_Same.l0, if_neg (by omega), List.drop_eq_nil_of_le (by omega), List.drop_eq_nil_of_le (by omega)]
    rfl
  | n + 1, k + 1, i, h, hk => by
    have hi : i < l.length := by omega
    have hi2 : i < m.length := by omega
    have e : wrap64 ((i : Int) + 1) = ((i + 1 : Nat) : Int) := by unfold wrap64; omega
    rw [majordomoref06_Same.l0, if_pos (by omega), if_pos (by omega), if_pos (by omega), rd31 hi, rd31 hi2, beq_byt, beq_byt, e, same_from a b l c d m hlen hl n k (i + 1) (by omega) (by omega)]
    have hd : (l.drop i = m.drop i) ↔ (l[i] = m[i] ∧ l.drop (i + 1) = m.drop (i + 1)) := by rw [List.drop_eq_getElem_cons hi, List.drop_eq_getElem_cons hi2, List.cons.injEq]
    have hs := s31_iff
    by_cases c0 : l[i].f0 = m[i].f0
    · by_cases c1 : l[i].f1 = m[i].f1
      · rw [decide_eq_true c0, decide_eq_true c1, if_neg (by decide)]
        have : l[i] = m[i] := (hs _ _).2 ⟨c0, c1⟩
        congr 1
        rw [decide_eq_decide, hd]
        exact ⟨fun h => ⟨this, h⟩, fun h => h.2⟩
      · rw [decide_eq_true c0, decide_eq_false c1, if_pos (by decide)]
        have : ¬ l[i] = m[i] := fun h => c1 ((hs _ _).1 h).2
        rw [decide_eq_false (fun h => this (hd.1 h).1)]
    · rw [decide_eq_false c0, if_pos (by simp)]
      have : ¬ l[i] = m[i] := fun h => c0 ((hs _ _).1 h).1
      rw [decide_eq_false (fun h => this (hd.1 h).1)]
theorem same_l0 (a b : ByteArray) (l : List S31) (c d : ByteArray) (m : List S31) (hlen : l.length = m.length) (hl : l.length ≤ 9223372036854775806) (k : Nat) (hk : l.length < k) :
    majordomoref06_Same.l0 k 0 a b l c d m = some (decide (l = m)) := by
  have := same_from a b l c d m hlen hl l.length k 0 (by omega) hk
  rw [List.drop_zero, List.drop_zero] at this
  exact this
theorem refSame_f (a b : ByteArray) (l : List S31) (c d : ByteArray) (m : List S31) (hl : l.length ≤ 9223372036854775806) (k : Nat) (hk : l.length + 1 < k) :
    majordomoref06_Same.f k a b l c d m = some (decide (a = c ∧ b = d ∧ l = m)) := by
  obtain ⟨k, rfl⟩ : ∃ m, k = m + 1 := ⟨k - 1, by omega⟩
  unfold majordomoref06_Same.f
  have hf : ∀ x : Bool, x = true → majordomoref06_Same.j0 (k + 1) x a b l c d m = some false := fun x hx => by rw [majordomoref06_Same.j0, if_pos hx]
  have hi : ∀ s t : ByteArray, s.toList = t.toList ↔ s = t := fun s t => by rw [toList_eq t]; exact byt_iff
  by_cases c0 : a = c
  · rw [if_pos ((hi _ _).2 c0)]
    by_cases c1 : b = d
    · rw [if_pos ((hi _ _).2 c1)]
      by_cases c2 : l.length = m.length
      · have e : ((l.length : Int) != (m.length : Int)) = false := by rw [c2]; simp
        rw [e, majordomoref06_Same.j0, if_neg (by decide), same_l0 a b l c d m c2 hl k (by omega)]
        congr 1
        rw [decide_eq_decide]
        exact ⟨fun h => ⟨c0, c1, h⟩, fun h => h.2.2⟩
      · rw [hf _ (by rw [bne_iff_ne]; omega), decide_eq_false (fun h => c2 (by rw [h.2.2]))]
    · rw [if_neg (fun h => c1 ((hi _ _).1 h)), hf _ rfl, decide_eq_false (fun h => c1 h.2.1)]
  · rw [if_neg (fun h => c0 ((hi _ _).1 h)), hf _ rfl, decide_eq_false (fun h => c0 h.1)]
end Go.Proofs.YtkgafkoopefghaaGreatDoor.PA
end
section
set_option linter.unusedVariables false
set_option linter.unusedSimpArgs false
namespace Go.Proofs.YtkgafkoopefghaaGreatDoor.PA
open Go.RowKit Go.Maps Go.WideMaps Go.Proofs.YtkgafkoopefghaaGreatDoor.Hk Go.Proofs.YtkgafkoopefghaaGreatDoorW.PrintWords
theorem spoil (x3 x9 : Bool) (x6 x8 : Int) (a b : ByteArray) (l : List S31) (c d : ByteArray) (m : List S31) (u v : ByteArray) (K : Nat) : ∀ (n i : Nat) (out : List S31), i + n = out.length → out.length ≤ 9223372036854775806 →
    majordomolaw06_ResourceChecks.l0 (n + 1 + K) x3 x6 x8 x9 i a b l c d m u v out = (majordomoref06_Same.f K c d m a b l).bind fun t420 => (if x3 = true then (if x9 = true then (if x6 = x8 then (if t420 = true then ((resource_Check.f c d m).bind fun t421 => ((majordomoref06_Check.f K a b l).bind fun t422 => (some (t421 == t422)))) else (some false)) else (some false)) else (some false)) else (some false))
  | 0, i, out, h, ho => by
    rw [show 0 + 1 + K = K + 1 by omega, majordomolaw06_ResourceChecks.l0, if_neg (by omega)]
  | n + 1, i, out, h, ho => by
    have e : wrap64 ((i : Int) + 1) = ((i + 1 : Nat) : Int) := by unfold wrap64; omega
    rw [show n + 1 + 1 + K = (n + 1 + K) + 1 by omega, majordomolaw06_ResourceChecks.l0, if_pos (by omega), if_pos (by omega), e]
    exact spoil x3 x9 x6 x8 a b l c d m u v K n (i + 1) _ (by rw [List.length_set]; omega) (by rw [List.length_set]; omega)
theorem needs_any {P : List S31} (hP : P.length ≤ 2147483648) (hfit : fitP P = true) : needs P 8589934592 := by
  refine ⟨by omega, fun p hp => ?_⟩
  have := List.all_eq_true.1 hfit p hp
  simp only [Bool.and_eq_true, decide_eq_true_eq] at this
  omega
theorem checks_true (a b : ByteArray) (l : List S31) (h : a.size < 2147483648 ∧ b.size < 2147483648 ∧ l.length < 2147483648 ∧ fitP l = true) : ∃ k, majordomolaw06_ResourceChecks.f k a b l = some true := by
  have hM := needs_any (P := l) (by omega) h.2.2.2
  obtain ⟨K, hK⟩ : ∃ K, K = 8589934592 + 1000 + l.length * 200 + 3 * b.size + 1 := ⟨_, rfl⟩
  have hck := refCheck_f a b l (by omega) hM (by omega) h.2.2.2 (k := K) (by omega)
  have hfl : ∀ n, majordomoref06_Full.f (n + 1 + K) a b l = some (fullS a b l) := fun n => refFull_f a b l (by omega) hM (by omega) h.2.2.2 (by omega)
  have hsm := refSame_f a b l a b l (by omega) K (by omega)
  have hff := full_f a b l h
  obtain ⟨fs, hfs⟩ : ∃ fs, fullS a b l = fs := ⟨_, rfl⟩
  rw [hfs] at hck hfl hff
  obtain ⟨r1, r2, r3, r4⟩ := fs
  have h3 : r3.length ≤ 9223372036854775806 := by
    have e : r3 = (fullS a b l).2.2.1 := by rw [hfs]
    by_cases c : (fullS a b l).2.2.2 = 0
    · obtain ⟨first, specs, rs, h1, h2, _, h4⟩ := fullS_ok c
      rw [h4] at e
      rw [e]
      have := (tidy_row (tidy_shapes h1).1 h2).2.2.1
      simp only []
      unfold outS namesS
      simp
      omega
    · rw [fullS_no c] at e
      rw [e]; simp
  refine ⟨r3.length + 1 + K, ?_⟩
  unfold majordomolaw06_ResourceChecks.f
  rw [shown_true]
  simp only [Option.bind_some, List.nil_append, List.length_nil]
  rw [if_pos (by omega), hff, Option.bind_some, hfl, Option.bind_some]
  simp only []
  have hs2 := refSame_f r1 r2 r3 r1 r2 r3 h3 (r3.length + 1 + K) (by omega)
  rw [hs2, Option.bind_some]
  have hsp := spoil true (decide (r1 = r1 ∧ r2 = r2 ∧ r3 = r3)) r4 r4 a b l a b l r1 r2 K r3.length 0 r3 (by omega) h3
  rw [show ((0 : Nat) : Int) = 0 from rfl] at hsp
  rw [hsp, hsm, Option.bind_some, if_pos rfl, decide_eq_true ⟨rfl, rfl, rfl⟩, if_pos rfl, if_pos rfl, decide_eq_true ⟨rfl, rfl, rfl⟩, if_pos rfl]
  unfold resource_Check.f
  rw [hff, Option.bind_some, Option.bind_some, hck, Option.bind_some]
  simp
end Go.Proofs.YtkgafkoopefghaaGreatDoor.PA
end
