/- A part of this law; its conditions stand in the last text. -/
import Derived.Test.YtkgafkoopefghaaGreatDoorRc29
import Derived.Test.YtkgafkoopefghaaGreatDoorRc14
import Derived.Test.YtkgafkoopefghaaGreatDoorRc34
import Derived.Test.YtkgafkoopefghaaGreatDoorRc27
import Derived.Test.YtkgafkoopefghaaGreatDoorRc30
import Derived.Test.YtkgafkoopefghaaGreatDoorRc28
import Derived.Test.YtkgafkoopefghaaGreatDoorRc21
import Derived.Test.YtkgafkoopefghaaGreatDoorRc22
import Derived.Test.YtkgafkoopefghaaGreatDoorRc31
import Derived.Test.YtkgafkoopefghaaGreatDoorRc25
section
set_option linter.unusedVariables false
set_option linter.unusedSimpArgs false
namespace Go.Proofs.YtkgafkoopefghaaGreatDoor.PA
open Go.RowKit Go.Proofs.YtkgafkoopefghaaGreatDoor.Hk Go.Proofs.YtkgafkoopefghaaGreatDoorW.PrintWords
def pa : List UInt8 → List UInt8 → List (List UInt8)
  | cur, [] => [cur]
  | cur, c :: l => if c = 47 then cur :: pa [] l else pa (cur ++ [c]) l
theorem pa_split : ∀ (l cur : List UInt8), ∃ h t, Lib.splitK [47] 0 (Lib.count l [47]) l = h :: t ∧ pa cur l = (cur ++ h) :: t
  | [], cur => by
    have hc : Lib.count ([] : List UInt8) [47] = 0 := by rw [Lib.count_one]; rfl
    rw [hc]
    exact ⟨[], [], rfl, by simp [pa]⟩
  | c :: l, cur => by
    by_cases e : c = 47
    · subst e
      obtain ⟨h, t, h1, h2⟩ := pa_split l []
      rw [Lib.count_cons_eq, Nat.add_comm]
      have hix : Lib.index (47 :: l) [47] = 0 := by rw [Lib.index]; simp [List.isPrefixOf]
      refine ⟨[], h :: t, ?_, ?_⟩
      · rw [Lib.splitK, hix, if_neg (by decide)]
        simp only [Int.toNat_zero, Nat.zero_add, List.take_zero, List.length_cons, List.length_nil, List.drop_succ_cons, List.drop_zero]
        rw [h1]
      · rw [pa, if_pos rfl, h2]; simp
    · obtain ⟨h, t, h1, h2⟩ := pa_split l (cur ++ [c])
      rw [Lib.count_cons_ne c 47 l e]
      refine ⟨c :: h, t, ?_, ?_⟩
      · have hp : ([47] : List UInt8).isPrefixOf (c :: l) = false := by simp [List.isPrefixOf, Ne.symm e]
        have hix : Lib.index (c :: l) [47] = if Lib.index l [47] == -1 then -1 else Lib.index l [47] + 1 := by rw [Lib.index, hp]; simp
        cases hk : Lib.count l [47] with
        | zero =>
          rw [hk] at h1
          rw [Lib.splitK] at h1 ⊢
          cases h1
          rfl
        | succ k =>
          rw [hk] at h1
          rw [Lib.splitK] at h1 ⊢
          by_cases hm : Lib.index l [47] = -1
          · rw [if_pos (by simpa using hm)] at h1
            have hix2 : Lib.index (c :: l) [47] = -1 := by rw [hix, if_pos (beq_iff_eq.2 hm)]
            rw [hix2, if_pos (by decide)]
            cases h1
            rfl
          · have hge := Lib.index_ge l [47]
            rw [if_neg (by simpa using hm)] at h1
            obtain ⟨j, hj⟩ : ∃ j : Nat, Lib.index l [47] = j := ⟨(Lib.index l [47]).toNat, by omega⟩
            have hix2 : Lib.index (c :: l) [47] = ((j + 1 : Nat) : Int) := by rw [hix, if_neg (fun e => hm (beq_iff_eq.1 e)), hj]; omega
            rw [hix2, if_neg (by rw [beq_iff_eq]; omega)]
            rw [hj] at h1
            simp only [Int.toNat_natCast, Nat.add_zero, List.length_cons, List.length_nil] at h1 ⊢
            simp only [List.take_succ_cons]
            have e2 : (c :: l).drop (j + 1 + (0 + 1)) = l.drop (j + (0 + 1)) := by rw [show j + 1 + (0 + 1) = (j + (0 + 1)) + 1 by omega, List.drop_succ_cons]
            rw [e2]
            cases h1
            rfl
      · rw [pa, if_neg e, h2]; simp
def paB (cur l : List UInt8) : List ByteArray := (pa cur l).map toB
theorem pieces_pa (t : ByteArray) : piecesS t = paB [] t.data.toList := by
  obtain ⟨h, r, h1, h2⟩ := pa_split t.data.toList []
  have h3 := Lib.splitB_data (⟨#[47]⟩ : ByteArray) 0 (Lib.countB t ⟨#[47]⟩) t
  have h4 : Lib.countB t ⟨#[47]⟩ = Lib.count t.data.toList [47] := rfl
  rw [h4, show (⟨#[47]⟩ : ByteArray).data.toList = [47] from rfl, h1] at h3
  rw [List.nil_append] at h2
  unfold piecesS paB
  rw [h2, ← h3, h4, List.map_map]
  conv => lhs; rw [← List.map_id (Lib.splitB ⟨#[47]⟩ 0 (Lib.count t.data.toList [47]) t)]
  exact List.map_congr_left fun x _ => (toB_data x).symm
def finP (done ps : List ByteArray) : List ByteArray × Int := if ps.all nameB = true then (if ((done ++ ps).length : Int) > 8 then ([], 40) else (done ++ ps, 0)) else ([], 40)
theorem finP_cons (done : List ByteArray) (p : ByteArray) (ps : List ByteArray) : finP done (p :: ps) = if nameB p = true then finP (done ++ [p]) ps else ([], 40) := by
  unfold finP
  rw [List.all_cons]
  by_cases h : nameB p = true
  · rw [if_pos h, h, Bool.true_and, List.append_assoc]; rfl
  · rw [if_neg h, Bool.eq_false_iff.2 h, Bool.false_and, if_neg (by simp)]
theorem piece_toB (s : ByteArray) (a b : Nat) : s.extract a b = toB ((s.data.toList.drop a).take (b - a)) := by
  have := Lib.extract_data s a b
  rw [← toB_data (s.extract a b), this]
theorem extract_size_le (s : ByteArray) (a b : Nat) : (s.extract a b).size ≤ s.size := by rw [size_len, size_len, Lib.extract_data]; simp; omega
theorem path_piece (s : ByteArray) (hs : s.size ≤ 4294967296) (k st i : Nat) (done : List ByteArray) (h1 : st ≤ i) (h2 : i ≤ s.size) (hd : done.length ≤ i) (hk : s.size < k) (rest : List ByteArray) (hn : ∀ e, majordomoref03_Path.l0 k s (done ++ [s.extract st i]) ((i + 1 : Nat) : Int) ((i + 1 : Nat) : Int) = e → e = some (finP (done ++ [s.extract st i]) rest)) :
    majordomoref03_Path.j2 (k + 1) s done st i true = some (finP done (s.extract st i :: rest)) := by
  rw [majordomoref03_Path.j2, if_pos rfl, if_pos (by omega), if_pos (by omega), if_pos (by omega)]
  simp only [Int.toNat_natCast]
  rw [refName_f _ (by have := extract_size_le s st i; omega) k (by have := extract_size_le s st i; omega), Option.bind_some, finP_cons]
  by_cases h : nameB (s.extract st i) = true
  · rw [if_pos h, if_pos h, if_pos (by omega)]
    have e : wrap64 ((i : Int) + 1) = ((i + 1 : Nat) : Int) := by unfold wrap64; omega
    rw [e]
    exact hn _ rfl
  · rw [if_neg h, if_neg h]
theorem path_from (s : ByteArray) (hs : s.size ≤ 4294967296) : ∀ (d k st i : Nat) (done : List ByteArray), i + d = s.size → st ≤ i → done.length ≤ i → 2 * d + s.size + 4 < k →
    majordomoref03_Path.l0 k s done st i = some (finP done (paB ((s.data.toList.drop st).take (i - st)) (s.data.toList.drop i)))
  | 0, 0, st, i, done, h, h1, hd, hk => by omega
  | 0, 1, st, i, done, h, h1, hd, hk => by omega
  | 0, k + 2, st, i, done, h, h1, hd, hk => by
    have hi : i = s.size := by omega
    rw [majordomoref03_Path.l0, if_pos (by omega), if_pos (by omega)]
    have hnil : s.data.toList.drop i = [] := List.drop_eq_nil_of_le (by rw [← size_len]; omega)
    rw [hnil]
    have hp : paB ((s.data.toList.drop st).take (i - st)) [] = [s.extract st i] := by rw [piece_toB]; rfl
    rw [hp]
    refine path_piece s hs k st i done h1 (by omega) hd (by omega) [] fun e he => ?_
    subst he
    obtain ⟨k, rfl⟩ : ∃ m, k = m + 1 := ⟨k - 1, by omega⟩
    rw [majordomoref03_Path.l0, if_neg (by omega)]
    unfold finP
    rw [List.all_nil, if_pos rfl, List.append_nil]
    by_cases c : ((done ++ [s.extract st i]).length : Int) > 8
    · rw [if_pos c, if_pos c]
    · rw [if_neg c, if_neg c]
  | d + 1, 0, st, i, done, h, h1, hd, hk => by omega
  | d + 1, 1, st, i, done, h, h1, hd, hk => by omega
  | d + 1, k + 2, st, i, done, h, h1, hd, hk => by
    have hl : i < s.data.toList.length := by rw [← size_len]; omega
    rw [majordomoref03_Path.l0, if_pos (by omega), if_neg (by omega), if_pos (by omega), if_pos (by omega), bt_get s i hl, drop_at hl]
    by_cases c : s.data.toList[i] = 47
    · have hc : ((((s.data.toList[i]).toNat : Nat) : Int) == 47) = true := by rw [c]; rfl
      rw [hc]
      have hp : paB ((s.data.toList.drop st).take (i - st)) (s.data.toList[i] :: s.data.toList.drop (i + 1)) = s.extract st i :: paB [] (s.data.toList.drop (i + 1)) := by
        unfold paB; rw [pa, if_pos c, piece_toB]; rfl
      rw [hp]
      refine path_piece s hs k st i done h1 (by omega) hd (by omega) _ fun e he => ?_
      subst he
      have := path_from s hs d k (i + 1) (i + 1) (done ++ [s.extract st i]) (by omega) (Nat.le_refl _) (by simp; omega) (by omega)
      rw [this, Nat.sub_self, List.take_zero]
    · have hc : ((((s.data.toList[i]).toNat : Nat) : Int) == 47) = false := by
        rw [beq_eq_false_iff_ne]
        intro e
        apply c
        have e2 : (s.data.toList[i]).toNat = 47 := by omega
        exact UInt8.toNat_inj.1 e2
      rw [hc, majordomoref03_Path.j2, if_neg (by decide)]
      have e : wrap64 ((i : Int) + 1) = ((i + 1 : Nat) : Int) := by unfold wrap64; omega
      rw [e, path_from s hs d k st (i + 1) done (by omega) (by omega) (by omega) (by omega)]
      have ht : (s.data.toList.drop st).take (i + 1 - st) = (s.data.toList.drop st).take (i - st) ++ [s.data.toList[i]] := by
        rw [show i + 1 - st = (i - st) + 1 by omega, List.take_add_one]
        congr 1
        rw [List.getElem?_drop, show st + (i - st) = i by omega, List.getElem?_eq_getElem hl]
        rfl
      rw [ht]
      have hp : paB ((s.data.toList.drop st).take (i - st)) (s.data.toList[i] :: s.data.toList.drop (i + 1)) = paB ((s.data.toList.drop st).take (i - st) ++ [s.data.toList[i]]) (s.data.toList.drop (i + 1)) := by
        unfold paB; rw [pa, if_neg c]
      rw [hp]
theorem refPath_f (s : ByteArray) (hs : s.size ≤ 4294967296) (k : Nat) (hk : 3 * s.size + 8 < k) : majordomoref03_Path.f k s = some (pathS s) := by
  unfold majordomoref03_Path.f pathS
  by_cases c0 : s.toList = [47]
  · rw [if_pos c0, if_pos c0]
  rw [if_neg c0, if_neg c0]
  obtain ⟨k, rfl⟩ : ∃ m, k = m + 1 := ⟨k - 1, by omega⟩
  have hj : majordomoref03_Path.j0 (k + 1) s true = some ([], 40) := by rw [majordomoref03_Path.j0, if_pos rfl]
  rw [hj]
  rw [toList_eq] at c0
  cases hd : s.data.toList with
  | nil =>
    have hz : s.size = 0 := by rw [size_len, hd]; rfl
    rw [if_pos (by omega), if_pos]
    unfold badPath cutSlash
    rw [hd]
    rfl
  | cons a l =>
    have hz : s.size = l.length + 1 := by rw [size_len, hd]; rfl
    have hb : bt s 0 = (a.toNat : Int) := by
      have := bt_get s 0 (by rw [hd]; simp)
      simp only [hd, List.getElem_cons_zero] at this
      exact this
    by_cases ca : a = 47
    · subst ca
      have h2 : ¬ (s.size : Int) < 2 := by
        intro h
        apply c0
        rw [hd]
        have : l = [] := List.eq_nil_of_length_eq_zero (by omega)
        rw [this]
      rw [if_neg h2]
      have hcut : cutSlash s = (s.extract 1 s.size, true) := by unfold cutSlash; rw [hd]; rfl
      have hdat : (s.extract 1 s.size).data.toList = l := by rw [Lib.extract_data, hd]; simp [List.take_of_length_le, hz]
      by_cases c1 : (s.size : Int) > 120
      · rw [if_pos c1, if_pos]
        unfold badPath
        rw [decide_eq_true (by omega : (120 : Int) < s.size)]
        simp
      · rw [if_neg c1, if_pos (by omega), hb]
        have e : (((47 : UInt8).toNat : Int) != 47) = false := by decide
        rw [e, majordomoref03_Path.j0, if_neg (by decide)]
        have := path_from s hs l.length k 1 1 [] (by omega) (Nat.le_refl _) (by simp) (by omega)
        rw [show ((1 : Nat) : Int) = 1 from rfl] at this
        rw [this, Nat.sub_self, List.take_zero, hd, List.drop_succ_cons, List.drop_zero]
        unfold badPath
        rw [hcut]
        simp only []
        rw [pieces_pa, hdat, decide_eq_false (by omega : ¬ (120 : Int) < s.size)]
        unfold finP
        rw [List.nil_append]
        have hany : (paB [] l).any (fun n => !nameB n) = !(paB [] l).all nameB := by rw [List.all_eq_not_any_not, Bool.not_not]
        rw [hany]
        by_cases c2 : (paB [] l).all nameB = true
        · rw [if_pos c2, c2]
          by_cases c3 : ((paB [] l).length : Int) > 8
          · rw [if_pos c3, if_pos (by rw [decide_eq_true (by omega : (8 : Int) < (paB [] l).length)]; rfl)]
          · rw [if_neg c3, if_neg (by rw [decide_eq_false (by omega : ¬ (8 : Int) < (paB [] l).length)]; decide)]
        · rw [if_neg c2, Bool.eq_false_iff.2 c2]
          rfl
    · have hbad : badPath s = true := by
        unfold badPath cutSlash
        rw [hd, if_neg (by simp [ca])]
        rfl
      rw [if_pos hbad]
      by_cases h2 : (s.size : Int) < 2
      · rw [if_pos h2]
      rw [if_neg h2]
      by_cases c1 : (s.size : Int) > 120
      · rw [if_pos c1]
      rw [if_neg c1, if_pos (by omega), hb]
      have e : ((a.toNat : Int) != 47) = true := by
        rw [bne_iff_ne]
        intro h
        apply ca
        have e2 : a.toNat = 47 := by omega
        exact UInt8.toNat_inj.1 e2
      rw [e, hj]
end Go.Proofs.YtkgafkoopefghaaGreatDoor.PA
end
section
set_option linter.unusedVariables false
set_option linter.unusedSimpArgs false
namespace Go.Proofs.YtkgafkoopefghaaGreatDoor.PA
open Go.RowKit Go.Maps Go.WideMaps Go.Proofs.YtkgafkoopefghaaGreatDoor.Hk Go.Proofs.YtkgafkoopefghaaGreatDoorW.PrintWords
theorem refGet_from (a b n : ByteArray) (l : List S31) (hl : l.length ≤ 9223372036854775806) : ∀ (k i : Nat), i ≤ l.length → l.length < k + i → majordomoref06_Get.l0 k n i a b l = some (toldR (getS (l.drop i) n))
  | 0, i, hi, hk => by omega
  | k + 1, i, hi, hk => by
    unfold majordomoref06_Get.l0
    by_cases c : i < l.length
    · rw [if_pos (by omega), if_pos (by omega), List.drop_eq_getElem_cons c]
      have e : rd_T31 l (i : Int) = l[i] := by unfold rd_T31; rw [Int.toNat_natCast, List.getD_eq_getElem?_getD, List.getElem?_eq_getElem c]; rfl
      unfold getS
      rw [e]
      by_cases d : l[i].f0.toList = n.toList
      · rw [if_pos d, if_pos d]; rfl
      · rw [if_neg d, if_neg d]
        have : wrap64 ((i : Int) + 1) = ((i + 1 : Nat) : Int) := by unfold wrap64; omega
        rw [this]
        exact refGet_from a b n l hl k (i + 1) (by omega) (by omega)
    · rw [if_neg (by omega)]
      have : l.drop i = [] := List.drop_eq_nil_of_le (by omega)
      rw [this]; rfl
theorem refGet_f (a b n : ByteArray) (l : List S31) (hl : l.length ≤ 9223372036854775806) (k : Nat) (hk : l.length < k) : majordomoref06_Get.f k a b l n = some (toldR (getS l n)) := refGet_from a b n l hl k 0 (by omega) (by omega)
theorem refDigits_from (s : ByteArray) (least most top : Int) (hs : s.size ≤ 9223372036854775806) : ∀ (d k i : Nat), i + d = s.size → d < k → majordomoref06_digits.l0 k s least most top i = some (((s.data.toList.drop i).all (fun b => decide (48 ≤ (b.toNat : Int) ∧ (b.toNat : Int) ≤ top))) && (decide (least ≤ (s.size : Int)) && decide ((s.size : Int) ≤ most)))
  | d, 0, i, h, hk => by omega
  | 0, k + 1, i, h, hk => by
    rw [majordomoref06_digits.l0, if_neg (by omega), List.drop_eq_nil_of_le (by rw [← size_len]; omega), List.all_nil, Bool.true_and]
    by_cases c : (s.size : Int) ≥ least
    · rw [if_pos c, decide_eq_true (by omega : least ≤ (s.size : Int)), Bool.true_and]
    · rw [if_neg c, decide_eq_false (by omega : ¬ least ≤ (s.size : Int)), Bool.false_and]
  | d + 1, k + 1, i, h, hk => by
    have hl : i < s.data.toList.length := by rw [← size_len]; omega
    rw [majordomoref06_digits.l0, if_pos (by omega), if_pos (by omega), bt_get s i hl, drop_at hl, List.all_cons]
    by_cases c1 : ((s.data.toList[i]).toNat : Int) < 48
    · rw [if_pos c1, decide_eq_false (by omega)]; rfl
    · rw [if_neg c1]
      by_cases c2 : ((s.data.toList[i]).toNat : Int) > top
      · rw [if_pos c2, decide_eq_false (by omega)]; rfl
      · rw [if_neg c2, wrap_next (by omega : i < s.size) hs, refDigits_from s least most top hs d k (i + 1) (by omega) (by omega), decide_eq_true (⟨by omega, by omega⟩ : (48 : Int) ≤ ((s.data.toList[i]).toNat : Int) ∧ ((s.data.toList[i]).toNat : Int) ≤ top), Bool.true_and]
theorem octals_all (l : List UInt8) : l.all (fun b => decide (48 ≤ (b.toNat : Int) ∧ (b.toNat : Int) ≤ 55)) = l.all (octals.data.toList.contains ·) := by
  have h : ∀ n : Fin 256, decide (48 ≤ (((UInt8.ofNat n.val).toNat : Nat) : Int) ∧ (((UInt8.ofNat n.val).toNat : Nat) : Int) ≤ 55) = octals.data.toList.contains (UInt8.ofNat n.val) := by decide +kernel
  have h2 : ∀ b : UInt8, decide (48 ≤ (b.toNat : Int) ∧ (b.toNat : Int) ≤ 55) = octals.data.toList.contains b := fun b => by
    have := h ⟨b.toNat, UInt8.toNat_lt b⟩
    simpa using this
  congr 1
  funext b
  exact h2 b
theorem decimals_all (l : List UInt8) : l.all (fun b => decide (48 ≤ (b.toNat : Int) ∧ (b.toNat : Int) ≤ 57)) = l.all (decimals.data.toList.contains ·) := by
  have h : ∀ n : Fin 256, decide (48 ≤ (((UInt8.ofNat n.val).toNat : Nat) : Int) ∧ (((UInt8.ofNat n.val).toNat : Nat) : Int) ≤ 57) = decimals.data.toList.contains (UInt8.ofNat n.val) := by decide +kernel
  have h2 : ∀ b : UInt8, decide (48 ≤ (b.toNat : Int) ∧ (b.toNat : Int) ≤ 57) = decimals.data.toList.contains b := fun b => by
    have := h ⟨b.toNat, UInt8.toNat_lt b⟩
    simpa using this
  congr 1
  funext b
  exact h2 b
theorem refOctals_f (s : ByteArray) (hs : s.size ≤ 9223372036854775806) (k : Nat) (hk : s.size < k) : majordomoref06_digits.f k s 4 4 55 = some (digitsB 4 4 octals.data.toList s) := by
  have := refDigits_from s 4 4 55 hs s.size k 0 (by omega) hk
  rw [List.drop_zero, octals_all] at this
  unfold digitsB
  rw [← Bool.and_assoc, Bool.and_comm]
  exact this
theorem refDecimals_f (s : ByteArray) (hs : s.size ≤ 9223372036854775806) (k : Nat) (hk : s.size < k) : majordomoref06_digits.f k s 1 5 57 = some (digitsB 1 5 decimals.data.toList s) := by
  have := refDigits_from s 1 5 57 hs s.size k 0 (by omega) hk
  rw [List.drop_zero, decimals_all] at this
  unfold digitsB
  rw [← Bool.and_assoc, Bool.and_comm]
  exact this
theorem refKey_f (s : ByteArray) (hs : s.size ≤ 9223372036854775806) (k : Nat) (hk : s.size < k) : majordomoref06_key.f k s = some (keyB s) := by
  unfold majordomoref06_key.f keyB
  by_cases c : s.toList = []
  · rw [if_pos c, decide_eq_true c]; rfl
  · rw [if_neg c, refWord_f s 32 hs k hk, decide_eq_false c]; rfl
theorem refTitle_f (kind s : ByteArray) (hs : s.size ≤ 4294967296) (k : Nat) (hk : 3 * s.size + 8 < k) : majordomoref06_title.f k kind s = some (titleS kind s) := by
  unfold majordomoref06_title.f titleS
  rw [refPath_f s hs k hk, refKey_f s (by omega) k (by omega)]
  by_cases c : kind.toList = ([102, 105, 108, 101] : List UInt8)
  · rw [if_pos c, if_pos c, Option.bind_some]
    by_cases c1 : (pathS s).2 = 0
    · rw [if_pos c1, if_pos c1]
      by_cases c2 : ((pathS s).1.length : Int) > 0
      · rw [if_pos c2, if_pos c2, if_pos c2]
        by_cases c3 : (rdOf ByteArray.empty (pathS s).1 0).toList = ([116, 97, 98] : List UInt8)
        · rw [if_pos c3, if_pos c3]
        · rw [if_neg c3, if_neg c3]
      · rw [if_neg c2, if_neg c2]
    · rw [if_neg c1, if_neg c1]
  · rw [if_neg c, if_neg c]; rfl
def firstR (kind : ByteArray) : ByteArray := match shapesD kind with | some q => q.1 | none => ⟨#[]⟩
theorem refFirst_f (kind : ByteArray) (k : Nat) (hk : 0 < k) : majordomoref06_first.f k kind = some (firstR kind) := by
  obtain ⟨k, rfl⟩ : ∃ m, k = m + 1 := ⟨k - 1, by omega⟩
  unfold majordomoref06_first.f firstR
  simp only [majordomoref06_first.j0]
  have hi : ∀ t : ByteArray, kind.toList = t.data.toList ↔ kind = t := fun t => byt_iff
  by_cases c_file : kind = ⟨#[102, 105, 108, 101]⟩
  · subst c_file; clear hi hk; decide +kernel
  have d_file := fun h => c_file ((hi ⟨#[102, 105, 108, 101]⟩).1 h)
  simp only [] at d_file
  by_cases c_account : kind = ⟨#[97, 99, 99, 111, 117, 110, 116]⟩
  · subst c_account; clear hi hk; decide +kernel
  have d_account := fun h => c_account ((hi ⟨#[97, 99, 99, 111, 117, 110, 116]⟩).1 h)
  simp only [] at d_account
  by_cases c_group : kind = ⟨#[103, 114, 111, 117, 112]⟩
  · subst c_group; clear hi hk; decide +kernel
  have d_group := fun h => c_group ((hi ⟨#[103, 114, 111, 117, 112]⟩).1 h)
  simp only [] at d_group
  by_cases c_package : kind = ⟨#[112, 97, 99, 107, 97, 103, 101]⟩
  · subst c_package; clear hi hk; decide +kernel
  have d_package := fun h => c_package ((hi ⟨#[112, 97, 99, 107, 97, 103, 101]⟩).1 h)
  simp only [] at d_package
  by_cases c_service : kind = ⟨#[115, 101, 114, 118, 105, 99, 101]⟩
  · subst c_service; clear hi hk; decide +kernel
  have d_service := fun h => c_service ((hi ⟨#[115, 101, 114, 118, 105, 99, 101]⟩).1 h)
  simp only [] at d_service
  have hn : shapesD kind = none := by
    unfold shapesD
    rw [if_neg c_file, if_neg c_account, if_neg c_group, if_neg c_package, if_neg c_service]
  rw [hn, if_neg d_file, if_neg d_account, if_neg d_group]
  have e : (kind.toList == ([112, 97, 99, 107, 97, 103, 101] : List UInt8)) = false := beq_eq_false_iff_ne.2 d_package
  rw [e, if_neg (by decide), if_neg d_service]
def valueR (n v : ByteArray) : Bool :=
  if n = ⟨#[99, 111, 110, 116, 101, 110, 116]⟩ then lenB v else if n = ⟨#[109, 111, 100, 101]⟩ then modeB (digitsB 4 4 octals.data.toList) v else if n = ⟨#[112, 117, 114, 103, 101]⟩ then oneB (⟨#[102, 97, 108, 115, 101]⟩ : ByteArray) (⟨#[116, 114, 117, 101]⟩ : ByteArray) v else if n = ⟨#[116, 97, 114, 103, 101, 116]⟩ then isPath v else if n = ⟨#[117, 105, 100]⟩ then digitsB 1 5 decimals.data.toList v else if n = ⟨#[103, 105, 100]⟩ then digitsB 1 5 decimals.data.toList v else if n = ⟨#[103, 114, 111, 117, 112]⟩ then keyB v else if n = ⟨#[115, 104, 101, 108, 108]⟩ then wordB v 64 else if n = ⟨#[118, 101, 114, 115, 105, 111, 110]⟩ then versionB v else decide (n = ensB)
theorem octal_head {v : ByteArray} (h : digitsB 4 4 octals.data.toList v = true) : 0 < v.data.toList.length := by
  unfold digitsB at h
  simp only [Bool.and_eq_true, decide_eq_true_eq] at h
  rw [← size_len]
  omega
set_option maxHeartbeats 1000000 in
theorem refValue_f (n v : ByteArray) (hs : v.size ≤ 4294967296) (k : Nat) (hk : 3 * v.size + 9 < k) : majordomoref06_value.f k n v = some (valueR n v) := by
  obtain ⟨k, rfl⟩ : ∃ m, k = m + 1 := ⟨k - 1, by omega⟩
  have hi : ∀ t : ByteArray, n.toList = t.data.toList ↔ n = t := fun t => byt_iff
  unfold majordomoref06_value.f valueR
  by_cases c_content : n = ⟨#[99, 111, 110, 116, 101, 110, 116]⟩
  · rw [if_pos ((hi ⟨#[99, 111, 110, 116, 101, 110, 116]⟩).2 c_content), if_pos c_content]; rfl
  rw [if_neg (fun h => c_content ((hi ⟨#[99, 111, 110, 116, 101, 110, 116]⟩).1 h)), if_neg c_content]
  by_cases c_mode : n = ⟨#[109, 111, 100, 101]⟩
  · rw [if_pos ((hi ⟨#[109, 111, 100, 101]⟩).2 c_mode), if_pos c_mode]
    rw [refOctals_f v (by omega) (k + 1) (by omega), Option.bind_some]
    unfold modeB
    by_cases c : digitsB 4 4 octals.data.toList v = true
    · have h0 := octal_head c
      rw [if_pos c, c, Bool.true_and, if_pos (by rw [size_len]; omega)]
      obtain ⟨x, l, hd⟩ : ∃ x l, v.data.toList = x :: l := by
        cases hd : v.data.toList with
        | nil => rw [hd] at h0; cases h0
        | cons x l => exact ⟨x, l, rfl⟩
      have hb : bt v 0 = (x.toNat : Int) := by
        have := bt_get v 0 h0
        simp only [hd, List.getElem_cons_zero] at this
        exact this
      rw [hb, hd, List.head?_cons]
      congr 1
      rw [Bool.eq_iff_iff, beq_iff_eq, beq_iff_eq, Option.some.injEq]
      constructor
      · intro h
        have e2 : x.toNat = 48 := by omega
        exact UInt8.toNat_inj.1 e2
      · rintro rfl; rfl
    · rw [if_neg c, Bool.eq_false_iff.2 c]; rfl
  rw [if_neg (fun h => c_mode ((hi ⟨#[109, 111, 100, 101]⟩).1 h)), if_neg c_mode]
  by_cases c_purge : n = ⟨#[112, 117, 114, 103, 101]⟩
  · rw [if_pos ((hi ⟨#[112, 117, 114, 103, 101]⟩).2 c_purge), if_pos c_purge]
    unfold oneB
    by_cases c : v.toList = ([102, 97, 108, 115, 101] : List UInt8)
    · rw [if_pos c, toList_eq (⟨#[102, 97, 108, 115, 101]⟩ : ByteArray), beq_iff_eq.2 c]; rfl
    · rw [if_neg c, toList_eq (⟨#[102, 97, 108, 115, 101]⟩ : ByteArray), toList_eq (⟨#[116, 114, 117, 101]⟩ : ByteArray), beq_eq_false_iff_ne.2 c]; rfl
  rw [if_neg (fun h => c_purge ((hi ⟨#[112, 117, 114, 103, 101]⟩).1 h)), if_neg c_purge]
  by_cases c_target : n = ⟨#[116, 97, 114, 103, 101, 116]⟩
  · rw [if_pos ((hi ⟨#[116, 97, 114, 103, 101, 116]⟩).2 c_target), if_pos c_target]
    rw [refPath_f v hs (k + 1) (by omega)]; rfl
  rw [if_neg (fun h => c_target ((hi ⟨#[116, 97, 114, 103, 101, 116]⟩).1 h)), if_neg c_target]
  simp only [majordomoref06_value.j0]
  by_cases c_uid : n = ⟨#[117, 105, 100]⟩
  · rw [if_pos ((hi ⟨#[117, 105, 100]⟩).2 c_uid), if_pos c_uid, beq_iff_eq.2 ((hi ⟨#[117, 105, 100]⟩).2 c_uid), if_pos rfl, refDecimals_f v (by omega) k (by omega)]; rfl
  rw [if_neg (fun h => c_uid ((hi ⟨#[117, 105, 100]⟩).1 h)), if_neg c_uid]
  by_cases c_gid : n = ⟨#[103, 105, 100]⟩
  · rw [if_pos c_gid, beq_iff_eq.2 ((hi ⟨#[103, 105, 100]⟩).2 c_gid), if_pos rfl, refDecimals_f v (by omega) k (by omega)]; rfl
  rw [if_neg c_gid, beq_eq_false_iff_ne.2 (fun h => c_gid ((hi ⟨#[103, 105, 100]⟩).1 h)), if_neg (by decide)]
  by_cases c_group : n = ⟨#[103, 114, 111, 117, 112]⟩
  · rw [if_pos ((hi ⟨#[103, 114, 111, 117, 112]⟩).2 c_group), if_pos c_group]
    rw [refKey_f v (by omega) k (by omega)]; rfl
  rw [if_neg (fun h => c_group ((hi ⟨#[103, 114, 111, 117, 112]⟩).1 h)), if_neg c_group]
  by_cases c_shell : n = ⟨#[115, 104, 101, 108, 108]⟩
  · rw [if_pos ((hi ⟨#[115, 104, 101, 108, 108]⟩).2 c_shell), if_pos c_shell]
    rw [refWord_f v 64 (by omega) k (by omega)]; rfl
  rw [if_neg (fun h => c_shell ((hi ⟨#[115, 104, 101, 108, 108]⟩).1 h)), if_neg c_shell]
  by_cases c_version : n = ⟨#[118, 101, 114, 115, 105, 111, 110]⟩
  · rw [if_pos ((hi ⟨#[118, 101, 114, 115, 105, 111, 110]⟩).2 c_version), if_pos c_version]
    unfold versionB
    by_cases c : v.toList = []
    · rw [if_pos c, decide_eq_true c]; rfl
    · rw [if_neg c, refWord_f v 64 (by omega) k (by omega), decide_eq_false c]; rfl
  rw [if_neg (fun h => c_version ((hi ⟨#[118, 101, 114, 115, 105, 111, 110]⟩).1 h)), if_neg c_version]
  congr 1
  rw [Bool.eq_iff_iff, beq_iff_eq, decide_eq_true_iff]
  exact hi ensB
structure RulesOk (first ens : ByteArray) (rs : List (ByteArray × RuleD)) (l : List S81) : Prop where
  names : l.map (·.f0) = namesB rs
  rows : ∀ x, x ∈ l → (x.f0 = ensB ∧ x.f2 = false ∧ (ens = first → x.f1 = first)) ∨ (x.f0 ≠ ensB ∧ ∃ q, findK rs x.f0 = some q ∧ x.f1 = q.dflt ∧ x.f2 = q.must)
  vals : ∀ s q, findK rs s = some q → ∀ v, valueR s v = q.may v
theorem cat_list (a b : ByteArray) : ((a ++ (⟨#[32]⟩ : ByteArray)) ++ b).toList = a.data.toList ++ (32 :: b.data.toList) := by
  rw [toList_eq]
  simp [ByteArray.data_append]
set_option maxHeartbeats 1000000 in
theorem rules_file (ens : ByteArray) (hs : ens.size ≤ 4294967296) : (findK fileD ens = none ∧ majordomoref06_rules.f ⟨#[102, 105, 108, 101]⟩ ens = some ([], false)) ∨ (∃ rs l, findK fileD ens = some rs ∧ majordomoref06_rules.f ⟨#[102, 105, 108, 101]⟩ ens = some (l, true) ∧ RulesOk ⟨#[102, 105, 108, 101]⟩ ens rs l) := by
  by_cases c_file : ens = ⟨#[102, 105, 108, 101]⟩
  · subst c_file
    refine .inr ⟨_, [⟨⟨#[99, 111, 110, 116, 101, 110, 116]⟩, ⟨#[]⟩, false⟩, ⟨ensB, ⟨#[102, 105, 108, 101]⟩, false⟩, ⟨⟨#[109, 111, 100, 101]⟩, ⟨#[48, 54, 52, 52]⟩, false⟩], rfl, by kernel_rfl, ?_, ?_, ?_⟩
    · exact (names_are (L := [[99, 111, 110, 116, 101, 110, 116], [101, 110, 115, 117, 114, 101], [109, 111, 100, 101]]) (by decide +kernel) (by decide +kernel)).symm
    · intro x hx
      simp only [List.mem_cons, List.not_mem_nil, or_false] at hx
      rcases hx with rfl | rfl | rfl
      · exact .inr ⟨by decide, _, rfl, rfl, rfl⟩
      · exact .inl ⟨rfl, rfl, fun _ => rfl⟩
      · exact .inr ⟨by decide, _, rfl, rfl, rfl⟩
    · intro s q hq v
      rw [findK] at hq
      by_cases e_content : s = ⟨#[99, 111, 110, 116, 101, 110, 116]⟩
      · rw [if_pos e_content] at hq; cases hq; subst e_content; exact rfl
      rw [if_neg e_content] at hq
      rw [findK] at hq
      by_cases e_mode : s = ⟨#[109, 111, 100, 101]⟩
      · rw [if_pos e_mode] at hq; cases hq; subst e_mode; exact rfl
      rw [if_neg e_mode] at hq
      cases hq
  by_cases c_directory : ens = ⟨#[100, 105, 114, 101, 99, 116, 111, 114, 121]⟩
  · subst c_directory
    refine .inr ⟨_, [⟨ensB, ⟨#[]⟩, false⟩, ⟨⟨#[109, 111, 100, 101]⟩, ⟨#[48, 55, 53, 53]⟩, false⟩, ⟨⟨#[112, 117, 114, 103, 101]⟩, ⟨#[102, 97, 108, 115, 101]⟩, false⟩], rfl, by kernel_rfl, ?_, ?_, ?_⟩
    · exact (names_are (L := [[101, 110, 115, 117, 114, 101], [109, 111, 100, 101], [112, 117, 114, 103, 101]]) (by decide +kernel) (by decide +kernel)).symm
    · intro x hx
      simp only [List.mem_cons, List.not_mem_nil, or_false] at hx
      rcases hx with rfl | rfl | rfl
      · exact .inl ⟨rfl, rfl, fun h => by cases h⟩
      · exact .inr ⟨by decide, _, rfl, rfl, rfl⟩
      · exact .inr ⟨by decide, _, rfl, rfl, rfl⟩
    · intro s q hq v
      rw [findK] at hq
      by_cases e_mode : s = ⟨#[109, 111, 100, 101]⟩
      · rw [if_pos e_mode] at hq; cases hq; subst e_mode; exact rfl
      rw [if_neg e_mode] at hq
      rw [findK] at hq
      by_cases e_purge : s = ⟨#[112, 117, 114, 103, 101]⟩
      · rw [if_pos e_purge] at hq; cases hq; subst e_purge; exact rfl
      rw [if_neg e_purge] at hq
      cases hq
  by_cases c_link : ens = ⟨#[108, 105, 110, 107]⟩
  · subst c_link
    refine .inr ⟨_, [⟨ensB, ⟨#[]⟩, false⟩, ⟨⟨#[116, 97, 114, 103, 101, 116]⟩, ⟨#[]⟩, true⟩], rfl, by kernel_rfl, ?_, ?_, ?_⟩
    · exact (names_are (L := [[101, 110, 115, 117, 114, 101], [116, 97, 114, 103, 101, 116]]) (by decide +kernel) (by decide +kernel)).symm
    · intro x hx
      simp only [List.mem_cons, List.not_mem_nil, or_false] at hx
      rcases hx with rfl | rfl
      · exact .inl ⟨rfl, rfl, fun h => by cases h⟩
      · exact .inr ⟨by decide, _, rfl, rfl, rfl⟩
    · intro s q hq v
      rw [findK] at hq
      by_cases e_target : s = ⟨#[116, 97, 114, 103, 101, 116]⟩
      · rw [if_pos e_target] at hq; cases hq; subst e_target; exact rfl
      rw [if_neg e_target] at hq
      cases hq
  by_cases c_absent : ens = ⟨#[97, 98, 115, 101, 110, 116]⟩
  · subst c_absent
    refine .inr ⟨_, [⟨ensB, ⟨#[]⟩, false⟩], rfl, by kernel_rfl, ?_, ?_, ?_⟩
    · exact (names_are (L := [[101, 110, 115, 117, 114, 101]]) (by decide +kernel) (by decide +kernel)).symm
    · intro x hx
      simp only [List.mem_cons, List.not_mem_nil, or_false] at hx
      rcases hx with rfl
      · exact .inl ⟨rfl, rfl, fun h => by cases h⟩
    · intro s q hq v
      cases hq
  refine .inl ⟨?_, ?_⟩
  · unfold fileD
    simp only [findK]
    rw [if_neg c_file, if_neg c_directory, if_neg c_link, if_neg c_absent]
  · have h1 : (⟨#[102, 105, 108, 101]⟩ : ByteArray).size + 1 ≤ 9223372036854775807 := by decide
    have h2 : ((⟨#[102, 105, 108, 101]⟩ : ByteArray) ++ (⟨#[32]⟩ : ByteArray)).size + ens.size ≤ 9223372036854775807 := by
      have : ((⟨#[102, 105, 108, 101]⟩ : ByteArray) ++ (⟨#[32]⟩ : ByteArray)).size = 5 := by decide
      omega
    have d_file : ens.data.toList ≠ ([102, 105, 108, 101] : List UInt8) := byt_ne c_file
    have d_directory : ens.data.toList ≠ ([100, 105, 114, 101, 99, 116, 111, 114, 121] : List UInt8) := byt_ne c_directory
    have d_link : ens.data.toList ≠ ([108, 105, 110, 107] : List UInt8) := byt_ne c_link
    have d_absent : ens.data.toList ≠ ([97, 98, 115, 101, 110, 116] : List UInt8) := byt_ne c_absent
    unfold majordomoref06_rules.f
    rw [if_pos h1, if_pos h2, cat_list]
    generalize ens.data.toList = L at d_file d_directory d_link d_absent
    simp [d_file, d_directory, d_link, d_absent]
set_option maxHeartbeats 1000000 in
theorem rules_account (ens : ByteArray) (hs : ens.size ≤ 4294967296) : (findK accountD ens = none ∧ majordomoref06_rules.f ⟨#[97, 99, 99, 111, 117, 110, 116]⟩ ens = some ([], false)) ∨ (∃ rs l, findK accountD ens = some rs ∧ majordomoref06_rules.f ⟨#[97, 99, 99, 111, 117, 110, 116]⟩ ens = some (l, true) ∧ RulesOk ⟨#[112, 114, 101, 115, 101, 110, 116]⟩ ens rs l) := by
  by_cases c_present : ens = ⟨#[112, 114, 101, 115, 101, 110, 116]⟩
  · subst c_present
    refine .inr ⟨_, [⟨ensB, ⟨#[112, 114, 101, 115, 101, 110, 116]⟩, false⟩, ⟨⟨#[103, 114, 111, 117, 112]⟩, ⟨#[117, 115, 101, 114, 115]⟩, false⟩, ⟨⟨#[115, 104, 101, 108, 108]⟩, ⟨#[47, 98, 105, 110, 47, 115, 104]⟩, false⟩, ⟨⟨#[117, 105, 100]⟩, ⟨#[49, 48, 48, 48]⟩, false⟩], rfl, by kernel_rfl, ?_, ?_, ?_⟩
    · exact (names_are (L := [[101, 110, 115, 117, 114, 101], [103, 114, 111, 117, 112], [115, 104, 101, 108, 108], [117, 105, 100]]) (by decide +kernel) (by decide +kernel)).symm
    · intro x hx
      simp only [List.mem_cons, List.not_mem_nil, or_false] at hx
      rcases hx with rfl | rfl | rfl | rfl
      · exact .inl ⟨rfl, rfl, fun _ => rfl⟩
      · exact .inr ⟨by decide, _, rfl, rfl, rfl⟩
      · exact .inr ⟨by decide, _, rfl, rfl, rfl⟩
      · exact .inr ⟨by decide, _, rfl, rfl, rfl⟩
    · intro s q hq v
      rw [findK] at hq
      by_cases e_uid : s = ⟨#[117, 105, 100]⟩
      · rw [if_pos e_uid] at hq; cases hq; subst e_uid; exact rfl
      rw [if_neg e_uid] at hq
      rw [findK] at hq
      by_cases e_group : s = ⟨#[103, 114, 111, 117, 112]⟩
      · rw [if_pos e_group] at hq; cases hq; subst e_group; exact rfl
      rw [if_neg e_group] at hq
      rw [findK] at hq
      by_cases e_shell : s = ⟨#[115, 104, 101, 108, 108]⟩
      · rw [if_pos e_shell] at hq; cases hq; subst e_shell; exact rfl
      rw [if_neg e_shell] at hq
      cases hq
  by_cases c_absent : ens = ⟨#[97, 98, 115, 101, 110, 116]⟩
  · subst c_absent
    refine .inr ⟨_, [⟨ensB, ⟨#[]⟩, false⟩], rfl, by kernel_rfl, ?_, ?_, ?_⟩
    · exact (names_are (L := [[101, 110, 115, 117, 114, 101]]) (by decide +kernel) (by decide +kernel)).symm
    · intro x hx
      simp only [List.mem_cons, List.not_mem_nil, or_false] at hx
      rcases hx with rfl
      · exact .inl ⟨rfl, rfl, fun h => by cases h⟩
    · intro s q hq v
      cases hq
  refine .inl ⟨?_, ?_⟩
  · unfold accountD
    simp only [findK]
    rw [if_neg c_present, if_neg c_absent]
  · have h1 : (⟨#[97, 99, 99, 111, 117, 110, 116]⟩ : ByteArray).size + 1 ≤ 9223372036854775807 := by decide
    have h2 : ((⟨#[97, 99, 99, 111, 117, 110, 116]⟩ : ByteArray) ++ (⟨#[32]⟩ : ByteArray)).size + ens.size ≤ 9223372036854775807 := by
      have : ((⟨#[97, 99, 99, 111, 117, 110, 116]⟩ : ByteArray) ++ (⟨#[32]⟩ : ByteArray)).size = 8 := by decide
      omega
    have d_present : ens.data.toList ≠ ([112, 114, 101, 115, 101, 110, 116] : List UInt8) := byt_ne c_present
    have d_absent : ens.data.toList ≠ ([97, 98, 115, 101, 110, 116] : List UInt8) := byt_ne c_absent
    unfold majordomoref06_rules.f
    rw [if_pos h1, if_pos h2, cat_list]
    generalize ens.data.toList = L at d_present d_absent
    simp [d_present, d_absent]
set_option maxHeartbeats 1000000 in
theorem rules_group (ens : ByteArray) (hs : ens.size ≤ 4294967296) : (findK groupD ens = none ∧ majordomoref06_rules.f ⟨#[103, 114, 111, 117, 112]⟩ ens = some ([], false)) ∨ (∃ rs l, findK groupD ens = some rs ∧ majordomoref06_rules.f ⟨#[103, 114, 111, 117, 112]⟩ ens = some (l, true) ∧ RulesOk ⟨#[112, 114, 101, 115, 101, 110, 116]⟩ ens rs l) := by
  by_cases c_present : ens = ⟨#[112, 114, 101, 115, 101, 110, 116]⟩
  · subst c_present
    refine .inr ⟨_, [⟨ensB, ⟨#[112, 114, 101, 115, 101, 110, 116]⟩, false⟩, ⟨⟨#[103, 105, 100]⟩, ⟨#[49, 48, 48, 48]⟩, false⟩], rfl, by kernel_rfl, ?_, ?_, ?_⟩
    · exact (names_are (L := [[101, 110, 115, 117, 114, 101], [103, 105, 100]]) (by decide +kernel) (by decide +kernel)).symm
    · intro x hx
      simp only [List.mem_cons, List.not_mem_nil, or_false] at hx
      rcases hx with rfl | rfl
      · exact .inl ⟨rfl, rfl, fun _ => rfl⟩
      · exact .inr ⟨by decide, _, rfl, rfl, rfl⟩
    · intro s q hq v
      rw [findK] at hq
      by_cases e_gid : s = ⟨#[103, 105, 100]⟩
      · rw [if_pos e_gid] at hq; cases hq; subst e_gid; exact rfl
      rw [if_neg e_gid] at hq
      cases hq
  by_cases c_absent : ens = ⟨#[97, 98, 115, 101, 110, 116]⟩
  · subst c_absent
    refine .inr ⟨_, [⟨ensB, ⟨#[]⟩, false⟩], rfl, by kernel_rfl, ?_, ?_, ?_⟩
    · exact (names_are (L := [[101, 110, 115, 117, 114, 101]]) (by decide +kernel) (by decide +kernel)).symm
    · intro x hx
      simp only [List.mem_cons, List.not_mem_nil, or_false] at hx
      rcases hx with rfl
      · exact .inl ⟨rfl, rfl, fun h => by cases h⟩
    · intro s q hq v
      cases hq
  refine .inl ⟨?_, ?_⟩
  · unfold groupD
    simp only [findK]
    rw [if_neg c_present, if_neg c_absent]
  · have h1 : (⟨#[103, 114, 111, 117, 112]⟩ : ByteArray).size + 1 ≤ 9223372036854775807 := by decide
    have h2 : ((⟨#[103, 114, 111, 117, 112]⟩ : ByteArray) ++ (⟨#[32]⟩ : ByteArray)).size + ens.size ≤ 9223372036854775807 := by
      have : ((⟨#[103, 114, 111, 117, 112]⟩ : ByteArray) ++ (⟨#[32]⟩ : ByteArray)).size = 6 := by decide
      omega
    have d_present : ens.data.toList ≠ ([112, 114, 101, 115, 101, 110, 116] : List UInt8) := byt_ne c_present
    have d_absent : ens.data.toList ≠ ([97, 98, 115, 101, 110, 116] : List UInt8) := byt_ne c_absent
    unfold majordomoref06_rules.f
    rw [if_pos h1, if_pos h2, cat_list]
    generalize ens.data.toList = L at d_present d_absent
    simp [d_present, d_absent]
set_option maxHeartbeats 1000000 in
theorem rules_package (ens : ByteArray) (hs : ens.size ≤ 4294967296) : (findK packageD ens = none ∧ majordomoref06_rules.f ⟨#[112, 97, 99, 107, 97, 103, 101]⟩ ens = some ([], false)) ∨ (∃ rs l, findK packageD ens = some rs ∧ majordomoref06_rules.f ⟨#[112, 97, 99, 107, 97, 103, 101]⟩ ens = some (l, true) ∧ RulesOk ⟨#[112, 114, 101, 115, 101, 110, 116]⟩ ens rs l) := by
  by_cases c_present : ens = ⟨#[112, 114, 101, 115, 101, 110, 116]⟩
  · subst c_present
    refine .inr ⟨_, [⟨ensB, ⟨#[112, 114, 101, 115, 101, 110, 116]⟩, false⟩, ⟨⟨#[118, 101, 114, 115, 105, 111, 110]⟩, ⟨#[108, 97, 116, 101, 115, 116]⟩, false⟩], rfl, by kernel_rfl, ?_, ?_, ?_⟩
    · exact (names_are (L := [[101, 110, 115, 117, 114, 101], [118, 101, 114, 115, 105, 111, 110]]) (by decide +kernel) (by decide +kernel)).symm
    · intro x hx
      simp only [List.mem_cons, List.not_mem_nil, or_false] at hx
      rcases hx with rfl | rfl
      · exact .inl ⟨rfl, rfl, fun _ => rfl⟩
      · exact .inr ⟨by decide, _, rfl, rfl, rfl⟩
    · intro s q hq v
      rw [findK] at hq
      by_cases e_version : s = ⟨#[118, 101, 114, 115, 105, 111, 110]⟩
      · rw [if_pos e_version] at hq; cases hq; subst e_version; exact rfl
      rw [if_neg e_version] at hq
      cases hq
  by_cases c_absent : ens = ⟨#[97, 98, 115, 101, 110, 116]⟩
  · subst c_absent
    refine .inr ⟨_, [⟨ensB, ⟨#[]⟩, false⟩], rfl, by kernel_rfl, ?_, ?_, ?_⟩
    · exact (names_are (L := [[101, 110, 115, 117, 114, 101]]) (by decide +kernel) (by decide +kernel)).symm
    · intro x hx
      simp only [List.mem_cons, List.not_mem_nil, or_false] at hx
      rcases hx with rfl
      · exact .inl ⟨rfl, rfl, fun h => by cases h⟩
    · intro s q hq v
      cases hq
  refine .inl ⟨?_, ?_⟩
  · unfold packageD
    simp only [findK]
    rw [if_neg c_present, if_neg c_absent]
  · have h1 : (⟨#[112, 97, 99, 107, 97, 103, 101]⟩ : ByteArray).size + 1 ≤ 9223372036854775807 := by decide
    have h2 : ((⟨#[112, 97, 99, 107, 97, 103, 101]⟩ : ByteArray) ++ (⟨#[32]⟩ : ByteArray)).size + ens.size ≤ 9223372036854775807 := by
      have : ((⟨#[112, 97, 99, 107, 97, 103, 101]⟩ : ByteArray) ++ (⟨#[32]⟩ : ByteArray)).size = 8 := by decide
      omega
    have d_present : ens.data.toList ≠ ([112, 114, 101, 115, 101, 110, 116] : List UInt8) := byt_ne c_present
    have d_absent : ens.data.toList ≠ ([97, 98, 115, 101, 110, 116] : List UInt8) := byt_ne c_absent
    unfold majordomoref06_rules.f
    rw [if_pos h1, if_pos h2, cat_list]
    generalize ens.data.toList = L at d_present d_absent
    simp [d_present, d_absent]
set_option maxHeartbeats 1000000 in
theorem rules_service (ens : ByteArray) (hs : ens.size ≤ 4294967296) : (findK serviceD ens = none ∧ majordomoref06_rules.f ⟨#[115, 101, 114, 118, 105, 99, 101]⟩ ens = some ([], false)) ∨ (∃ rs l, findK serviceD ens = some rs ∧ majordomoref06_rules.f ⟨#[115, 101, 114, 118, 105, 99, 101]⟩ ens = some (l, true) ∧ RulesOk ⟨#[114, 117, 110, 110, 105, 110, 103]⟩ ens rs l) := by
  by_cases c_running : ens = ⟨#[114, 117, 110, 110, 105, 110, 103]⟩
  · subst c_running
    refine .inr ⟨_, [⟨ensB, ⟨#[114, 117, 110, 110, 105, 110, 103]⟩, false⟩], rfl, by kernel_rfl, ?_, ?_, ?_⟩
    · exact (names_are (L := [[101, 110, 115, 117, 114, 101]]) (by decide +kernel) (by decide +kernel)).symm
    · intro x hx
      simp only [List.mem_cons, List.not_mem_nil, or_false] at hx
      rcases hx with rfl
      · exact .inl ⟨rfl, rfl, fun _ => rfl⟩
    · intro s q hq v
      cases hq
  by_cases c_stopped : ens = ⟨#[115, 116, 111, 112, 112, 101, 100]⟩
  · subst c_stopped
    refine .inr ⟨_, [⟨ensB, ⟨#[]⟩, false⟩], rfl, by kernel_rfl, ?_, ?_, ?_⟩
    · exact (names_are (L := [[101, 110, 115, 117, 114, 101]]) (by decide +kernel) (by decide +kernel)).symm
    · intro x hx
      simp only [List.mem_cons, List.not_mem_nil, or_false] at hx
      rcases hx with rfl
      · exact .inl ⟨rfl, rfl, fun h => by cases h⟩
    · intro s q hq v
      cases hq
  refine .inl ⟨?_, ?_⟩
  · unfold serviceD
    simp only [findK]
    rw [if_neg c_running, if_neg c_stopped]
  · have h1 : (⟨#[115, 101, 114, 118, 105, 99, 101]⟩ : ByteArray).size + 1 ≤ 9223372036854775807 := by decide
    have h2 : ((⟨#[115, 101, 114, 118, 105, 99, 101]⟩ : ByteArray) ++ (⟨#[32]⟩ : ByteArray)).size + ens.size ≤ 9223372036854775807 := by
      have : ((⟨#[115, 101, 114, 118, 105, 99, 101]⟩ : ByteArray) ++ (⟨#[32]⟩ : ByteArray)).size = 8 := by decide
      omega
    have d_running : ens.data.toList ≠ ([114, 117, 110, 110, 105, 110, 103] : List UInt8) := byt_ne c_running
    have d_stopped : ens.data.toList ≠ ([115, 116, 111, 112, 112, 101, 100] : List UInt8) := byt_ne c_stopped
    unfold majordomoref06_rules.f
    rw [if_pos h1, if_pos h2, cat_list]
    generalize ens.data.toList = L at d_running d_stopped
    simp [d_running, d_stopped]
theorem rules_ok {kind first ens : ByteArray} {specs : List (ByteArray × List (ByteArray × RuleD))} (h : shapesD kind = some (first, specs)) (hs : ens.size ≤ 4294967296) : (findK specs ens = none ∧ majordomoref06_rules.f kind ens = some ([], false)) ∨ (∃ rs l, findK specs ens = some rs ∧ majordomoref06_rules.f kind ens = some (l, true) ∧ RulesOk first ens rs l) := by
  unfold shapesD at h
  by_cases c_file : kind = ⟨#[102, 105, 108, 101]⟩
  · rw [if_pos c_file] at h; cases h; subst c_file; exact rules_file ens hs
  rw [if_neg c_file] at h
  by_cases c_account : kind = ⟨#[97, 99, 99, 111, 117, 110, 116]⟩
  · rw [if_pos c_account] at h; cases h; subst c_account; exact rules_account ens hs
  rw [if_neg c_account] at h
  by_cases c_group : kind = ⟨#[103, 114, 111, 117, 112]⟩
  · rw [if_pos c_group] at h; cases h; subst c_group; exact rules_group ens hs
  rw [if_neg c_group] at h
  by_cases c_package : kind = ⟨#[112, 97, 99, 107, 97, 103, 101]⟩
  · rw [if_pos c_package] at h; cases h; subst c_package; exact rules_package ens hs
  rw [if_neg c_package] at h
  by_cases c_service : kind = ⟨#[115, 101, 114, 118, 105, 99, 101]⟩
  · rw [if_pos c_service] at h; cases h; subst c_service; exact rules_service ens hs
  rw [if_neg c_service] at h
  cases h
end Go.Proofs.YtkgafkoopefghaaGreatDoor.PA
end
section
set_option linter.unusedVariables false
set_option linter.unusedSimpArgs false
namespace Go.Proofs.YtkgafkoopefghaaGreatDoor.PA
open Go.RowKit Go.Maps Go.WideMaps Go.Proofs.YtkgafkoopefghaaGreatDoor.Hk Go.Proofs.YtkgafkoopefghaaGreatDoorW.PrintWords
theorem rd81 {l : List S81} {i : Nat} (hi : i < l.length) : rd_T81 l (i : Int) = l[i] := by unfold rd_T81; rw [Int.toNat_natCast, List.getD_eq_getElem?_getD, List.getElem?_eq_getElem hi]; rfl
def chkNext (k : Nat) (l : List S81) (i : Int) (a b : ByteArray) (P : List S31) (nm vl : ByteArray) (known : Bool) : Option Int :=
  if known = true then (if i > 0 then (if 0 ≤ (wrap64 (i - 1)) then (if (wrap64 (i - 1)) < (P.length : Int) then (if ((Op.bytesLess (((rd_T31 P (wrap64 (i - 1))).f0).toList) nm.toList) = true) then ((majordomoref06_value.f k nm vl).bind fun t362 => (if t362 = true then (majordomoref06_Check.l0 k l (wrap64 (i + 1)) a b P) else (some 62))) else (some 62)) else (none)) else (none)) else ((majordomoref06_value.f k nm vl).bind fun t363 => (if t363 = true then (majordomoref06_Check.l0 k l (wrap64 (i + 1)) a b P) else (some 62)))) else (some 62)
theorem chk_inner (l : List S81) (hl : l.length ≤ 100) (i : Int) (a b : ByteArray) (P : List S31) (nm vl : ByteArray) (k : Nat) : ∀ (d j : Nat) (known : Bool), j + d = l.length →
    majordomoref06_Check.l1 (d + 1 + k) l i known j a b P nm vl = chkNext k l i a b P nm vl (known || (l.drop j).any (fun x => x.f0.toList == nm.toList))
  | 0, j, known, h => by
    rw [show 0 + 1 + k = k + 1 by omega, majordomoref06_Check.l1, if_neg (by omega), List.drop_eq_nil_of_le (by omega)]
    simp only [List.any_nil, Bool.or_false]
    rfl
  | d + 1, j, known, h => by
    have hj : j < l.length := by omega
    rw [show d + 1 + 1 + k = (d + 1 + k) + 1 by omega, majordomoref06_Check.l1, if_pos (by omega), List.drop_eq_getElem_cons hj, List.any_cons]
    have e : wrap64 ((j : Int) + 1) = ((j + 1 : Nat) : Int) := by unfold wrap64; omega
    rw [e, rd81 hj]
    cases known with
    | true =>
      rw [if_pos rfl, chk_inner l hl i a b P nm vl k d (j + 1) true (by omega)]
      simp
    | false =>
      rw [if_neg (by decide), if_pos (by omega), chk_inner l hl i a b P nm vl k d (j + 1) _ (by omega)]
      simp
theorem names_any {rs : List (ByteArray × RuleD)} {l : List S81} {first ens : ByteArray} (hR : RulesOk first ens rs l) (nm : ByteArray) : l.any (fun x => x.f0.toList == nm.toList) = (decide (nm = ensB) || (findK rs nm).isSome) := by
  rw [Bool.eq_iff_iff, List.any_eq_true]
  simp only [Bool.or_eq_true, decide_eq_true_iff, beq_iff_eq]
  have hm : ∀ s, (∃ x, x ∈ l ∧ x.f0 = s) ↔ s ∈ namesB rs := fun s => by rw [← hR.names, List.mem_map]
  have hk : nm ∈ namesB rs ↔ nm = ensB ∨ (findK rs nm).isSome = true := by
    constructor
    · intro h
      rcases name_mem h with h | h
      · exact .inl h
      · exact .inr (findK_some_mem.2 h)
    · intro h
      have h2 : nm.data.toList ∈ namesS rs := by
        unfold namesS
        rw [List.mem_mergeSort]
        rcases h with rfl | h
        · exact .head _
        · obtain ⟨q, hq, e⟩ := List.mem_map.1 (findK_some_mem.1 h)
          exact .tail _ (List.mem_map.2 ⟨q, hq, by rw [e]⟩)
      exact List.mem_map.2 ⟨_, h2, toB_data nm⟩
  rw [← hk, ← hm]
  constructor
  · rintro ⟨x, hx, e⟩
    exact ⟨x, hx, by rw [toList_eq, toList_eq] at e; exact byt_inj e⟩
  · rintro ⟨x, hx, e⟩
    exact ⟨x, hx, by rw [e]⟩
theorem valueR_ens (v : ByteArray) : valueR ensB v = true := by
  unfold valueR
  rw [if_neg (by decide), if_neg (by decide), if_neg (by decide), if_neg (by decide), if_neg (by decide), if_neg (by decide), if_neg (by decide), if_neg (by decide), if_neg (by decide)]
  exact decide_eq_true rfl
theorem known_any {rs : List (ByteArray × RuleD)} {l : List S81} {first ens : ByteArray} (hR : RulesOk first ens rs l) (he : findK rs ensB = none) (p : S31) : (l.any (fun x => x.f0.toList == p.f0.toList) && valueR p.f0 p.f1) = knownS rs p := by
  rw [names_any hR]
  unfold knownS
  have e : (p.f0.toList == ([101, 110, 115, 117, 114, 101] : List UInt8)) = decide (p.f0 = ensB) := by
    rw [Bool.eq_iff_iff, beq_iff_eq, decide_eq_true_iff]
    exact byt_iff (t := ensB)
  rw [e]
  by_cases c : p.f0 = ensB
  · rw [decide_eq_true c, c, valueR_ens]; rfl
  · rw [decide_eq_false c]
    cases hf : findK rs p.f0 with
    | none => rfl
    | some q => rw [hR.vals _ _ hf]; rfl
def needs (P : List S31) (M : Nat) : Prop := P.length ≤ M ∧ ∀ p, p ∈ P → 3 * p.f1.size + 9 < M ∧ p.f1.size ≤ 4294967296
theorem chk_next {rs : List (ByteArray × RuleD)} {l : List S81} {first ens : ByteArray} (hR : RulesOk first ens rs l) (he : findK rs ensB = none) (a b : ByteArray) (P : List S31) {M k i : Nat} (hM : needs P M) (hP : P.length ≤ 4294967296) (hk : M ≤ k) (hi : i < P.length) :
    chkNext k l i a b P P[i].f0 P[i].f1 (l.any (fun x => x.f0.toList == P[i].f0.toList)) = if stepOk rs P i = true then majordomoref06_Check.l0 k l ((i + 1 : Nat) : Int) a b P else some 62 := by
  have hv := hM.2 P[i] (List.getElem_mem hi)
  have hka := known_any hR he P[i]
  have e1 : wrap64 ((i : Int) + 1) = ((i + 1 : Nat) : Int) := by unfold wrap64; omega
  unfold chkNext stepOk
  rw [refValue_f _ _ hv.2 k (by omega), e1, rd31 hi, ← hka]
  generalize l.any (fun x => x.f0.toList == P[i].f0.toList) = kn
  generalize valueR P[i].f0 P[i].f1 = vv
  simp only [Option.bind_some]
  cases kn with
  | false => rw [if_neg (by decide), Bool.false_and, Bool.false_and, if_neg (by decide)]
  | true =>
    rw [if_pos rfl, Bool.true_and]
    by_cases c : i = 0
    · subst c
      rw [if_neg (by decide), decide_eq_true rfl, Bool.true_or, Bool.and_true]
    · have e2 : wrap64 ((i : Int) - 1) = ((i - 1 : Nat) : Int) := by unfold wrap64; omega
      rw [if_pos (by omega), e2, if_pos (by omega), if_pos (by omega), decide_eq_false c, Bool.false_or]
      unfold leS
      rw [less_or_eq, Bool.not_not]
      cases Op.bytesLess (rd_T31 P ((i - 1 : Nat) : Int)).f0.toList P[i].f0.toList with
      | true => rw [if_pos rfl, Bool.and_true]
      | false => rw [if_neg (by decide), Bool.and_false, if_neg (by decide)]
theorem chk_from {rs : List (ByteArray × RuleD)} {l : List S81} {first ens : ByteArray} (hR : RulesOk first ens rs l) (he : findK rs ensB = none) (hl : l.length ≤ 100) (a b : ByteArray) (P : List S31) {M : Nat} (hM : needs P M) (hP : P.length ≤ 4294967296) : ∀ (d k i : Nat), i + d = P.length → M ≤ k →
    majordomoref06_Check.l0 (k + 1 + d * (l.length + 2)) l i a b P = if (List.range' i d).all (stepOk rs P) = true then majordomoref06_Check.l2 k l 0 a b P else some 62
  | 0, k, i, h, hk => by
    rw [Nat.zero_mul, Nat.add_zero, majordomoref06_Check.l0, if_neg (by omega)]
    rfl
  | d + 1, k, i, h, hk => by
    have hi : i < P.length := by omega
    have e : k + 1 + (d + 1) * (l.length + 2) = (l.length + 1 + (k + 1 + d * (l.length + 2))) + 1 := by rw [Nat.succ_mul]; omega
    rw [e, majordomoref06_Check.l0, if_pos (by omega), if_pos (by omega), rd31 hi]
    have h0 := chk_inner l hl i a b P P[i].f0 P[i].f1 (k + 1 + d * (l.length + 2)) l.length 0 false (by omega)
    rw [Bool.false_or, List.drop_zero] at h0
    rw [show ((0 : Nat) : Int) = 0 from rfl] at h0
    rw [h0, chk_next hR he a b P hM hP (by omega) hi, List.range'_succ, List.all_cons]
    by_cases c : stepOk rs P i = true
    · rw [if_pos c, c, Bool.true_and]
      exact chk_from hR he hl a b P hM hP d k (i + 1) (by omega) hk
    · rw [if_neg c, Bool.eq_false_iff.2 c, Bool.false_and, if_neg (by decide)]
theorem chk_lacks (l : List S81) (hl : l.length ≤ 100) (a b : ByteArray) (P : List S31) (hP : P.length ≤ 4294967296) : ∀ (d k j : Nat), j + d = l.length → P.length + d < k →
    majordomoref06_Check.l2 k l j a b P = some (if (l.drop j).any (fun x => x.f2 && (getS P x.f0).isNone) = true then 62 else 0)
  | d, 0, j, h, hk => by omega
  | 0, k + 1, j, h, hk => by
    rw [majordomoref06_Check.l2, if_neg (by omega), List.drop_eq_nil_of_le (by omega)]
    rfl
  | d + 1, k + 1, j, h, hk => by
    have hj : j < l.length := by omega
    have e : wrap64 ((j : Int) + 1) = ((j + 1 : Nat) : Int) := by unfold wrap64; omega
    rw [majordomoref06_Check.l2, if_pos (by omega), if_pos (by omega), rd81 hj, refGet_f a b _ P (by omega) k (by omega), Option.bind_some, e, chk_lacks l hl a b P hP d k (j + 1) (by omega) (by omega), List.drop_eq_getElem_cons hj, List.any_cons]
    cases l[j].f2 with
    | false => rw [if_neg (by decide), Bool.false_and, Bool.false_or]
    | true =>
      rw [if_pos rfl, Bool.true_and]
      cases getS P l[j].f0 with
      | none =>
        have e2 : (toldR (none : Option ByteArray)).2 = false := rfl
        rw [e2, if_neg (by decide), Option.isNone_none, Bool.true_or, if_pos rfl]
      | some v =>
        have e2 : (toldR (some v)).2 = true := rfl
        rw [e2, if_pos rfl, Option.isNone_some, Bool.false_or]
theorem lacks_any {rs : List (ByteArray × RuleD)} {l : List S81} {first ens : ByteArray} (hR : RulesOk first ens rs l) (he : findK rs ensB = none) (ho : once rs = true) (P : List S31) : l.any (fun x => x.f2 && (getS P x.f0).isNone) = lacks ens P rs := by
  unfold lacks
  rw [Bool.eq_iff_iff, List.any_eq_true, List.any_eq_true]
  constructor
  · rintro ⟨x, hx, h⟩
    rw [Bool.and_eq_true] at h
    rcases hR.rows x hx with ⟨_, h2, _⟩ | ⟨h1, q, hq, _, h2⟩
    · rw [h2] at h; cases h.1
    · obtain ⟨y, hy, e1, e2⟩ : ∃ y, y ∈ rs ∧ y.1 = x.f0 ∧ y.2 = q := by
        have : ∀ rs : List (ByteArray × RuleD), findK rs x.f0 = some q → ∃ y, y ∈ rs ∧ y.1 = x.f0 ∧ y.2 = q := by
          intro rs
          induction rs with
          | nil => intro h; cases h
          | cons y rs ih =>
            intro h
            unfold findK at h
            by_cases c : x.f0 = y.1
            · rw [if_pos c] at h; cases h; exact ⟨y, .head _, c.symm, rfl⟩
            · rw [if_neg c] at h
              obtain ⟨z, hz, h1, h2⟩ := ih h
              exact ⟨z, .tail _ hz, h1, h2⟩
        exact this rs hq
      refine ⟨y, hy, ?_⟩
      rw [e1, e2, ← h2, told_none _ h1, h.1, h.2]; rfl
  · rintro ⟨y, hy, h⟩
    rw [Bool.and_eq_true] at h
    have hf : findK rs y.1 = some y.2 := by
      have : ∀ rs : List (ByteArray × RuleD), once rs = true → y ∈ rs → findK rs y.1 = some y.2 := by
        intro rs
        induction rs with
        | nil => intro _ h; cases h
        | cons z rs ih =>
          intro ho hm
          unfold once at ho
          simp only [Bool.and_eq_true, Option.isNone_iff_eq_none] at ho
          unfold findK
          rcases List.mem_cons.1 hm with rfl | hm
          · rw [if_pos rfl]
          · rw [if_neg, ih ho.2 hm]
            intro e
            have := ih ho.2 hm
            rw [e, ho.1] at this
            cases this
      exact this rs ho hy
    have hne : y.1 ≠ ensB := fun e => by rw [e, he] at hf; cases hf
    have hin : y.1 ∈ l.map (·.f0) := by
      rw [hR.names]
      have h2 : y.1.data.toList ∈ namesS rs := by
        unfold namesS
        rw [List.mem_mergeSort]
        exact .tail _ (List.mem_map.2 ⟨y, hy, rfl⟩)
      exact List.mem_map.2 ⟨_, h2, toB_data y.1⟩
    obtain ⟨x, hx, e⟩ := List.mem_map.1 hin
    refine ⟨x, hx, ?_⟩
    rcases hR.rows x hx with ⟨h1, _, _⟩ | ⟨h1, q, hq, _, h2⟩
    · exact (hne (e.symm.trans h1)).elim
    · rw [e, hf] at hq
      cases hq
      rw [h2, e, ← told_none _ hne ens, h.1, h.2]; rfl
def outR (P : List S31) (l : List S81) : List S31 := l.map fun x => ⟨x.f0, (getS P x.f0).getD x.f1⟩
theorem outR_eq {rs : List (ByteArray × RuleD)} {l : List S81} {first ens : ByteArray} {P : List S31} (hR : RulesOk first ens rs l) (hok : okP rs P = true) (hens : ens = (getS P ensB).getD first) : outR P l = outS ens P rs := by
  have h1 : outS ens P rs = (namesB rs).map fun s => ⟨s, (fullAt ens P rs s).getD ⟨#[]⟩⟩ := by unfold outS namesB; rw [List.map_map]; rfl
  rw [h1, ← hR.names, List.map_map]
  unfold outR
  refine List.map_congr_left fun x hx => ?_
  show (⟨x.f0, _⟩ : S31) = ⟨x.f0, _⟩
  congr 1
  show (getS P x.f0).getD x.f1 = (fullAt ens P rs x.f0).getD ⟨#[]⟩
  unfold fullAt toldAt
  rw [told_get _ _ _ (okP_nodup hok)]
  rcases hR.rows x hx with ⟨e, _, h3⟩ | ⟨hne, q, hq, h3, _⟩
  · rw [e, if_pos rfl]
    cases hg : getS P ensB with
    | some v => rfl
    | none =>
      rw [hg] at hens
      simp only [Option.getD_none] at hens ⊢
      rw [h3 hens, hens]; rfl
  · rw [if_neg hne, hq]
    cases getS P x.f0 with
    | some v => rfl
    | none => simp only [Option.getD_none]; rw [h3]; rfl
theorem ref_full_from (l : List S81) (hl : l.length ≤ 100) (a b kind title : ByteArray) (P : List S31) (hP : P.length ≤ 4294967296) : ∀ (d k j : Nat) (out : List S31), j + d = l.length → out.length ≤ 100 + j → P.length + d < k →
    majordomoref06_Full.l0 k l j a b P kind title out = some (kind, title, out ++ outR P (l.drop j), 0)
  | d, 0, j, out, h, ho, hk => by omega
  | 0, k + 1, j, out, h, ho, hk => by
    rw [majordomoref06_Full.l0, if_neg (by omega), List.drop_eq_nil_of_le (by omega)]
    unfold outR
    rw [List.map_nil, List.append_nil]
  | d + 1, k + 1, j, out, h, ho, hk => by
    have hj : j < l.length := by omega
    have e : wrap64 ((j : Int) + 1) = ((j + 1 : Nat) : Int) := by unfold wrap64; omega
    have hstep : ∀ v : ByteArray, v = (getS P l[j].f0).getD l[j].f1 → majordomoref06_Full.l0 k l ((j + 1 : Nat) : Int) a b P kind title (out ++ [(⟨l[j].f0, v⟩ : S31)]) = some (kind, title, out ++ outR P (l.drop j), 0) := fun v hv => by
      rw [ref_full_from l hl a b kind title P hP d k (j + 1) _ (by omega) (by simp; omega) (by omega), List.drop_eq_getElem_cons hj, hv]
      unfold outR
      rw [List.map_cons, List.append_assoc]; rfl
    rw [majordomoref06_Full.l0, if_pos (by omega), if_pos (by omega), rd81 hj, refGet_f a b _ P (by omega) k (by omega), Option.bind_some, e]
    cases hg : getS P l[j].f0 with
    | none =>
      have e2 : (toldR (none : Option ByteArray)).2 = false := rfl
      rw [e2, if_neg (by decide), if_pos (by omega)]
      exact hstep _ (by rw [hg]; rfl)
    | some v =>
      have e2 : (toldR (some v)).2 = true := rfl
      rw [e2, if_pos rfl, if_pos (by omega)]
      exact hstep _ (by rw [hg]; rfl)
theorem first_some {kind first : ByteArray} {specs : List (ByteArray × List (ByteArray × RuleD))} (h : shapesD kind = some (first, specs)) : firstR kind = first ∧ first.toList ≠ [] := by
  refine ⟨by unfold firstR; rw [h], ?_⟩
  unfold shapesD at h
  repeat' split at h
  all_goals (first | (cases h; rw [toList_eq]; decide) | cases h)
theorem check_j0 {kind first : ByteArray} {specs : List (ByteArray × List (ByteArray × RuleD))} (h : shapesD kind = some (first, specs)) (a : ByteArray) (P : List S31) {M k : Nat} (hM : needs P M) (hP : P.length ≤ 4294967296) (hens : (ensR first P).size ≤ 4294967296) (hk : M + 1000 + P.length * 200 < k) :
    majordomoref06_Check.j0 k (ensR first P) kind a P = some (match findK specs (ensR first P) with | none => 62 | some rs => if okP rs P = true then (if lacks (ensR first P) P rs = true then 62 else 0) else 62) := by
  obtain ⟨k, rfl⟩ : ∃ m, k = m + 1 := ⟨k - 1, by omega⟩
  rw [majordomoref06_Check.j0]
  rcases rules_ok h hens with ⟨h1, h2⟩ | ⟨rs, l, h1, h2, hR⟩
  · rw [h2, h1, Option.bind_some, if_neg (by decide)]
  · have ht := tidy_row (tidy_shapes h).1 h1
    have hl : l.length ≤ 9 := by
      have e := congrArg List.length hR.names
      rw [List.length_map] at e
      rw [e]
      unfold namesB namesS
      have := ht.2.2.1
      simp
      omega
    rw [h2, h1, Option.bind_some, if_pos rfl]
    obtain ⟨k', rfl⟩ : ∃ k', k = k' + 1 + P.length * (l.length + 2) := ⟨k - 1 - P.length * (l.length + 2), by
      have : P.length * (l.length + 2) ≤ P.length * 200 := Nat.mul_le_mul_left _ (by omega)
      omega⟩
    have hk' : M + 900 < k' := by
      have : P.length * (l.length + 2) ≤ P.length * 200 := Nat.mul_le_mul_left _ (by omega)
      omega
    have hc := chk_from hR ht.2.1 (by omega) kind a P hM hP P.length k' 0 (by omega) (by omega)
    rw [show ((0 : Nat) : Int) = 0 from rfl] at hc
    rw [hc]
    have hq : (List.range' 0 P.length).all (stepOk rs P) = okP rs P := by unfold okP; rw [List.range_eq_range']
    rw [hq]
    by_cases c : okP rs P = true
    · have h3 := hM.1
      have hlk := chk_lacks l (by omega) kind a P hP l.length k' 0 (by omega) (by omega)
      rw [show ((0 : Nat) : Int) = 0 from rfl] at hlk
      simp only [if_pos c]
      rw [hlk, List.drop_zero, lacks_any hR ht.2.1 ht.1]
    · simp only [if_neg c]
theorem refCheck_f (kind a : ByteArray) (P : List S31) (ha : a.size ≤ 4294967296) {M k : Nat} (hM : needs P M) (hP : P.length ≤ 4294967296) (hfit : fitP P = true) (hk : M + 1000 + P.length * 200 + 3 * a.size < k) :
    majordomoref06_Check.f k kind a P = some (fullS kind a P).2.2.2 := by
  unfold majordomoref06_Check.f fullS
  rw [refFirst_f kind k (by omega), Option.bind_some]
  cases h : shapesD kind with
  | none =>
    have e : firstR kind = ⟨#[]⟩ := by unfold firstR; rw [h]
    rw [e, if_pos (by rw [toList_eq])]
  | some q =>
    obtain ⟨first, specs⟩ := q
    obtain ⟨e, hne⟩ := first_some h
    rw [e, if_neg hne, refTitle_f kind a ha k (by omega), Option.bind_some]
    simp only []
    by_cases ht : titleS kind a = true
    · have h3 := hM.1
      have hr : ensR first P = (getS P ensB).getD first := rfl
      rw [if_pos ht, if_pos ht, refGet_f kind a _ P (by omega) k (by omega), Option.bind_some, ← hr]
      have hens : (ensR first P).size ≤ 4294967296 := by
        have h1 := (tidy_shapes h).2
        unfold ensR
        cases hg : getS P ensB with
        | none => rw [Option.getD_none]; omega
        | some v => have := getS_fit hfit hg; rw [Option.getD_some]; omega
      have hj := check_j0 h a P hM hP hens (k := k) (by omega)
      have hg : (if (toldR (getS P ensB)).2 = true then majordomoref06_Check.j0 k (toldR (getS P ensB)).1 kind a P else (some first).bind fun t353 => majordomoref06_Check.j0 k t353 kind a P) = majordomoref06_Check.j0 k (ensR first P) kind a P := by
        unfold ensR
        cases getS P ensB with
        | none => rfl
        | some v => rfl
      have hg2 := hg.trans hj
      refine hg2.trans ?_
      cases findK specs (ensR first P) with
      | none => rfl
      | some rs =>
        simp only []
        by_cases c : okP rs P = true
        · rw [if_pos c, if_pos c]
          by_cases c2 : lacks (ensR first P) P rs = true
          · rw [if_pos c2, if_pos c2]
          · rw [if_neg c2, if_neg c2]
        · rw [if_neg c, if_neg c]
    · rw [if_neg ht, if_neg ht]
theorem refFull_f (kind a : ByteArray) (P : List S31) (ha : a.size ≤ 4294967296) {M k : Nat} (hM : needs P M) (hP : P.length ≤ 4294967296) (hfit : fitP P = true) (hk : M + 1000 + P.length * 200 + 3 * a.size < k) :
    majordomoref06_Full.f k kind a P = some (fullS kind a P) := by
  unfold majordomoref06_Full.f
  rw [refCheck_f kind a P ha hM hP hfit hk, Option.bind_some]
  by_cases c : (fullS kind a P).2.2.2 = 0
  · rw [if_pos c]
    obtain ⟨first, specs, rs, h, h1, hok, hfull⟩ := fullS_ok c
    have h3 := hM.1
    rw [refGet_f kind a _ P (by omega) k (by omega), Option.bind_some, refFirst_f kind k (by omega), (first_some h).1, hfull]
    have hens : (ensR first P).size ≤ 4294967296 := by
      have h1 := (tidy_shapes h).2
      unfold ensR
      cases hg : getS P ensB with
      | none => rw [Option.getD_none]; omega
      | some v => have := getS_fit hfit hg; rw [Option.getD_some]; omega
    have hg : (if (toldR (getS P ensB)).2 = true then majordomoref06_Full.j0 k (toldR (getS P ensB)).1 kind a P else (some first).bind fun t353 => majordomoref06_Full.j0 k t353 kind a P) = majordomoref06_Full.j0 k (ensR first P) kind a P := by
      unfold ensR
      cases getS P ensB with
      | none => rfl
      | some v => rfl
    refine hg.trans ?_
    obtain ⟨k, rfl⟩ : ∃ m, k = m + 1 := ⟨k - 1, by omega⟩
    rw [majordomoref06_Full.j0]
    rcases rules_ok h hens with ⟨h4, h2⟩ | ⟨rs', l, h4, h2, hR⟩
    · rw [h1] at h4; cases h4
    · rw [h1] at h4
      cases h4
      have ht := tidy_row (tidy_shapes h).1 h1
      have hl : l.length ≤ 9 := by
        have e := congrArg List.length hR.names
        rw [List.length_map] at e
        rw [e]
        unfold namesB namesS
        have := ht.2.2.1
        simp
        omega
      have hf := ref_full_from l (by omega) kind a kind a P hP l.length k 0 [] (by omega) (by simp) (by omega)
      rw [show ((0 : Nat) : Int) = 0 from rfl] at hf
      rw [h2, Option.bind_some, hf, List.nil_append, List.drop_zero, outR_eq hR hok rfl]
  · rw [if_neg c, fullS_no c]
end Go.Proofs.YtkgafkoopefghaaGreatDoor.PA
end
