/- A part of this law; its conditions stand in the last text. -/
import Derived.Test.YtkgafkoopefghaaGreatDoorCc32
import Derived.Test.YtkgafkoopefghaaGreatDoorCc30
section
set_option linter.unusedVariables false
set_option linter.unusedSimpArgs false
namespace Go.Proofs.YtkgafkoopefghaaGreatDoor.PA
open Go.RowKit Go.Maps Go.WideMaps Go.Proofs.YtkgafkoopefghaaGreatDoor.Hk Go.Proofs.YtkgafkoopefghaaGreatDoorW.PrintWords
def eqP : List S31 → List S31 → Bool
  | [], [] => true
  | p :: P, q :: Q => p.f0.toList == q.f0.toList && p.f1.toList == q.f1.toList && eqP P Q
  | _, _ => false
theorem eqP_len : ∀ {P Q : List S31}, eqP P Q = true → P.length = Q.length
  | [], [], _ => rfl
  | p :: P, q :: Q, h => by
    unfold eqP at h
    simp only [Bool.and_eq_true] at h
    simp [eqP_len h.2]
  | [], _ :: _, h => by cases h
  | _ :: _, [], h => by cases h
theorem toList_inj {s t : ByteArray} (h : s.toList = t.toList) : s = t := by
  rw [toList_eq, toList_eq] at h
  exact byt_inj h
theorem rd31_g {l : List S31} {i : Nat} (h : i < l.length) : rd_T31 l (i : Int) = l[i] := by unfold rd_T31; rw [Int.toNat_natCast, List.getD_eq_getElem?_getD, List.getElem?_eq_getElem h]; rfl
theorem par_l0 (P Q : List S31) (hl : P.length = Q.length) (hm : P.length < 2147483648) : ∀ (d i : Nat), i + d = P.length → Ev (fun k => api_Param.l0 k P Q (P.length : Int) (i : Int)) (eqP (P.drop i) (Q.drop i))
  | 0, i, h => by
    refine Ev.step (f := fun _ => some true) (fun k => ?_) ?_
    · rw [api_Param.l0, if_neg (by omega)]
    · rw [List.drop_eq_nil_of_le (by omega), List.drop_eq_nil_of_le (by omega)]
      exact Ev.now true
  | d + 1, i, h => by
    have h1 : i < P.length := by omega
    have h2 : i < Q.length := by omega
    rw [List.drop_eq_getElem_cons h1, List.drop_eq_getElem_cons h2]
    unfold eqP
    refine Ev.step (f := fun k => if (!((((rd_T31 P i).f0).toList) == (((rd_T31 Q i).f0).toList)) || (!((((rd_T31 P i).f1).toList) == (((rd_T31 Q i).f1).toList)))) = true then (some false) else (api_Param.l0 k P Q (P.length : Int) ((i + 1 : Nat) : Int))) (fun k => ?_) ?_
    · rw [api_Param.l0, if_pos (by omega), if_pos (by omega), if_pos (by omega), if_pos (by omega), show wrap64 ((i : Int) + 1) = ((i + 1 : Nat) : Int) from by unfold wrap64; omega]
    · rw [rd31_g h1, rd31_g h2]
      cases e0 : P[i].f0.toList == Q[i].f0.toList with
      | false => simp only [Bool.not_false, Bool.true_or, if_true, Bool.false_and]; exact Ev.now _
      | true =>
        cases e1 : P[i].f1.toList == Q[i].f1.toList with
        | false => simp only [Bool.not_true, Bool.not_false, Bool.false_or, if_true, Bool.true_and, Bool.false_and]; exact Ev.now _
        | true =>
          simp only [Bool.not_true, Bool.or_false, Bool.false_eq_true, if_false, Bool.true_and]
          exact par_l0 P Q hl hm d (i + 1) (by omega)
theorem same_ev (a b c d : ByteArray) (P Q : List S31) (hm : P.length < 2147483648) : Ev (fun k => catalog_same.f k a b P c d Q) (eqP P Q) := by
  unfold catalog_same.f
  refine Ev.bind (f := fun _ t => some t) (a := eqP P Q) ?_ (Ev.now _)
  unfold api_Param.f
  by_cases hl : P.length = Q.length
  · simp only [if_pos (show (P.length : Int) = (Q.length : Int) from by omega)]
    exact par_l0 P Q hl hm P.length 0 (by omega)
  · simp only [if_neg (show ¬ (P.length : Int) = (Q.length : Int) from by omega)]
    have : eqP P Q = false := by
      rw [Bool.eq_false_iff]
      exact fun h => hl (eqP_len h)
    rw [this]
    exact Ev.now false
def lessS (a b : S24) : Bool := if a.f0.toList = b.f0.toList then Op.bytesLess a.f1.toList b.f1.toList else Op.bytesLess a.f0.toList b.f0.toList
theorem less_f (a b : S24) : resource_Less.f a.f0 a.f1 a.f2 b.f0 b.f1 b.f2 = some (lessS a b) := by
  unfold resource_Less.f lessS
  by_cases c : a.f0.toList = b.f0.toList
  · rw [if_pos c, if_pos c]
  · rw [if_neg c, if_neg c]
def shortB (rs : List (ByteArray × RuleD)) : Bool := decide (rs.length ≤ 8)
theorem short_shapes {kind first : ByteArray} {specs : List (ByteArray × List (ByteArray × RuleD))} (h : shapesD kind = some (first, specs)) : specs.all (fun x => shortB x.2) = true := by
  unfold shapesD at h
  repeat' split at h
  all_goals (first | (cases h; decide +kernel) | cases h)
theorem full_few {kind a : ByteArray} {P : List S31} (h : (fullS kind a P).2.2.2 = 0) : (fullS kind a P).2.2.1.length ≤ 9 := by
  obtain ⟨first, specs, rs, h1, h2, _, h3⟩ := fullS_ok h
  have h4 := List.all_eq_true.1 (short_shapes h1) _ (findK_mem h2)
  have h5 : rs.length ≤ 8 := of_decide_eq_true h4
  rw [h3]
  unfold outS namesS
  simp
  omega
theorem full_short {kind a : ByteArray} {P : List S31} (h : (fullS kind a P).2.2.2 = 0) : (fullS kind a P).2.2.1.length < 2147483648 := by
  have := full_few h
  omega
def stepC (R : List S24) (i : Nat) : Option Int :=
  if (fullS (rd_T24 R (i : Int)).f0 (rd_T24 R (i : Int)).f1 (rd_T24 R (i : Int)).f2).2.2.2 = 0 then
    (if eqP (fullS (rd_T24 R (i : Int)).f0 (rd_T24 R (i : Int)).f1 (rd_T24 R (i : Int)).f2).2.2.1 (rd_T24 R (i : Int)).f2 = true then
      (if i = 0 then none else if lessS (rd_T24 R (i : Int)) (rd_T24 R ((i - 1 : Nat) : Int)) = true then some 70 else if lessS (rd_T24 R ((i - 1 : Nat) : Int)) (rd_T24 R (i : Int)) = true then none else some 71)
    else some 70)
  else some (fullS (rd_T24 R (i : Int)).f0 (rd_T24 R (i : Int)).f1 (rd_T24 R (i : Int)).f2).2.2.2
def loopC (R : List S24) (rest : Int) : Nat → Nat → Int
  | 0, _ => rest
  | d + 1, i => match stepC R i with | some e => e | none => loopC R rest d (i + 1)
def behindS (a b : S50) : Bool := if a.f0 > b.f0 then true else if a.f0 = b.f0 then decide (a.f1 > b.f1) else false
theorem behind_f (a b : S50) : catalog_behind.f a.f0 a.f1 a.f2 b.f0 b.f1 b.f2 = some (behindS a b) := by
  unfold catalog_behind.f behindS
  by_cases c : a.f0 > b.f0
  · rw [if_pos c, if_pos c]
  · rw [if_neg c, if_neg c]
    by_cases c2 : a.f0 = b.f0
    · rw [if_pos c2, if_pos c2]
    · rw [if_neg c2, if_neg c2]
def edgeOk (n : Int) (E : List S50) (i : Nat) : Bool :=
  if mn (rd_T50 E (i : Int)).f0 (rd_T50 E (i : Int)).f1 < 0 then false else if mx (rd_T50 E (i : Int)).f0 (rd_T50 E (i : Int)).f1 ≥ n then false else if (rd_T50 E (i : Int)).f0 = (rd_T50 E (i : Int)).f1 then false else if i = 0 then true else behindS (rd_T50 E (i : Int)) (rd_T50 E ((i - 1 : Nat) : Int))
def loopE (n : Int) (E : List S50) (rest : Int) : Nat → Nat → Int
  | 0, _ => rest
  | d + 1, i => if edgeOk n E i = true then loopE n E rest d (i + 1) else 72
def endC (v : Int) (node : ByteArray) (R : List S24) (E : List S50) : Int := if ((bytesC v node R E).length : Int) > 2432 then 5 else 0
def edgesC (v : Int) (node : ByteArray) (R : List S24) (E : List S50) : Int := loopE (R.length : Int) E (endC v node R E) E.length 0
def restC (v : Int) (node : ByteArray) (R : List S24) (E : List S50) : Int := if blockedS R = true then 90 else edgesC v node R E
def checkC (v : Int) (node : ByteArray) (R : List S24) (E : List S50) : Int :=
  if v < 0 ∨ v ≥ 65536 ∨ keyB node = false then 70 else if (R.length : Int) > 32 then 5 else if (E.length : Int) > 96 then 5 else loopC R (restC v node R E) R.length 0
def fitC (v : Int) (node : ByteArray) (R : List S24) (E : List S50) : Bool := decide (node.size < 2147483648) && fitR R && decide (E.length < 2147483648) && decide ((bytesC v node R E).length ≤ 140737488355328)
section
variable {v : Int} {node : ByteArray} {R : List S24} {E : List S50}
theorem fitC_out (h : fitC v node R E = true) : node.size < 2147483648 ∧ fitR R = true ∧ R.length < 2147483648 ∧ E.length < 2147483648 ∧ (bytesC v node R E).length ≤ 140737488355328 := by
  unfold fitC at h
  simp only [Bool.and_eq_true, decide_eq_true_eq] at h
  have h2 := h.1.1.2
  unfold fitR at h2
  rw [Bool.and_eq_true, decide_eq_true_eq] at h2
  exact ⟨h.1.1.1, h.1.1.2, h2.1, h.1.2, h.2⟩
theorem bytes_f (h : fitC v node R E = true) : catalog_bytes.f v node R E = some (bytesC v node R E) := by
  obtain ⟨_, h2, h3, h4, h5⟩ := fitC_out h
  unfold catalog_bytes.f
  rw [if_pos ⟨h5, h3, h4, List.all_eq_true.2 fun s hs => decide_eq_true (fitR_at h2 hs).2.2.1⟩]
theorem edges_ev (h : fitC v node R E = true) : ∀ (d i : Nat), i + d = E.length → Ev (fun k => catalog_Check.l1 k (R.length : Int) E (E.length : Int) (i : Int) v node R E) (loopE (R.length : Int) E (endC v node R E) d i)
  | 0, i, hd => by
    refine Ev.step (f := fun _ => (catalog_bytes.f v node R E).bind fun t312 => (if (t312.length : Int) > 2432 then (some 5) else (some 0))) (fun k => ?_) ?_
    · rw [catalog_Check.l1, if_neg (by omega)]
    · rw [bytes_f h]
      simp only [Option.bind_some]
      unfold loopE endC
      by_cases c : ((bytesC v node R E).length : Int) > 2432
      · simp only [if_pos c]; exact Ev.now _
      · simp only [if_neg c]; exact Ev.now _
  | d + 1, i, hd => by
    have hE := (fitC_out h).2.2.2.1
    unfold loopE edgeOk
    refine Ev.step (f := fun k => (if (mn ((rd_T50 E i).f0) ((rd_T50 E i).f1)) < 0 then (some 72) else (if (mx ((rd_T50 E i).f0) ((rd_T50 E i).f1)) ≥ (R.length : Int) then (some 72) else (if ((rd_T50 E i).f0) = ((rd_T50 E i).f1) then (some 72) else (if (i : Int) > 0 then (if 0 ≤ (wrap64 ((i : Int) - 1)) then (if (wrap64 ((i : Int) - 1)) < (E.length : Int) then ((catalog_behind.f ((rd_T50 E i).f0) ((rd_T50 E i).f1) ((rd_T50 E i).f2) ((rd_T50 E (wrap64 ((i : Int) - 1))).f0) ((rd_T50 E (wrap64 ((i : Int) - 1))).f1) ((rd_T50 E (wrap64 ((i : Int) - 1))).f2)).bind fun t311 => (if t311 = true then (catalog_Check.l1 k (R.length : Int) E (E.length : Int) (wrap64 ((i : Int) + 1)) v node R E) else (some 72))) else (none)) else (none)) else (catalog_Check.l1 k (R.length : Int) E (E.length : Int) (wrap64 ((i : Int) + 1)) v node R E)))))) (fun k => ?_) ?_
    · rw [catalog_Check.l1, if_pos (by omega), if_pos (by omega), if_pos (by omega)]
    · rw [show wrap64 ((i : Int) + 1) = ((i + 1 : Nat) : Int) from by unfold wrap64; omega]
      by_cases c1 : mn ((rd_T50 E i).f0) ((rd_T50 E i).f1) < 0
      · simp only [if_pos c1]; exact Ev.now _
      by_cases c2 : mx ((rd_T50 E i).f0) ((rd_T50 E i).f1) ≥ (R.length : Int)
      · simp only [if_neg c1, if_pos c2]; exact Ev.now _
      by_cases c3 : (rd_T50 E i).f0 = (rd_T50 E i).f1
      · simp only [if_neg c1, if_neg c2, if_pos c3]; exact Ev.now _
      simp only [if_neg c1, if_neg c2, if_neg c3]
      by_cases c4 : i = 0
      · subst c4
        simp only [if_neg (show ¬ ((0 : Nat) : Int) > 0 from by omega), if_true]
        exact edges_ev h d 1 (by omega)
      · simp only [if_pos (show (i : Int) > 0 from by omega), if_neg c4]
        rw [show wrap64 ((i : Int) - 1) = ((i - 1 : Nat) : Int) from by unfold wrap64; omega]
        simp only [if_pos (show (0 : Int) ≤ ((i - 1 : Nat) : Int) from by omega), if_pos (show ((i - 1 : Nat) : Int) < (E.length : Int) from by omega), behind_f, Option.bind_some]
        by_cases c5 : behindS (rd_T50 E i) (rd_T50 E ((i - 1 : Nat) : Int)) = true
        · simp only [if_pos c5]; exact edges_ev h d (i + 1) (by omega)
        · simp only [if_neg c5]; exact Ev.now _
theorem rest_ev (h : fitC v node R E = true) : Ev (fun k => (catalog_blocked.f R).bind fun t307 => (if t307 = true then (some 90) else (catalog_Check.l1 k (R.length : Int) E (E.length : Int) 0 v node R E))) (restC v node R E) := by
  have hb : catalog_blocked.f R = some (blockedS R) := by unfold catalog_blocked.f; rw [if_pos (fitC_out h).2.1]
  rw [hb]
  simp only [Option.bind_some]
  unfold restC
  by_cases c : blockedS R = true
  · simp only [if_pos c]; exact Ev.now _
  · simp only [if_neg c]; exact edges_ev h E.length 0 (by omega)
theorem j2_ev (h : fitC v node R E = true) (i : Nat) (hi : i < R.length) {g : Int} (hg : Ev (fun k => catalog_Check.l0 k R (R.length : Int) ((i + 1 : Nat) : Int) v node R E) g) (b : Bool) :
    Ev (fun k => catalog_Check.j2 k (i : Int) R (R.length : Int) (i : Int) b v node R E (rd_T24 R (i : Int)).f0 (rd_T24 R (i : Int)).f1 (rd_T24 R (i : Int)).f2) (if b = true then 70 else if i = 0 then g else if lessS (rd_T24 R ((i - 1 : Nat) : Int)) (rd_T24 R (i : Int)) = true then g else 71) := by
  have hR := (fitC_out h).2.2.1
  refine Ev.step (f := fun k => if b = true then (some 70) else (if (i : Int) > 0 then (if 0 ≤ (wrap64 ((i : Int) - 1)) then (if (wrap64 ((i : Int) - 1)) < (R.length : Int) then ((resource_Less.f ((rd_T24 R (wrap64 ((i : Int) - 1))).f0) ((rd_T24 R (wrap64 ((i : Int) - 1))).f1) ((rd_T24 R (wrap64 ((i : Int) - 1))).f2) (rd_T24 R (i : Int)).f0 (rd_T24 R (i : Int)).f1 (rd_T24 R (i : Int)).f2).bind fun t306 => (if t306 = true then (catalog_Check.l0 k R (R.length : Int) (wrap64 ((i : Int) + 1)) v node R E) else (some 71))) else (none)) else (none)) else (catalog_Check.l0 k R (R.length : Int) (wrap64 ((i : Int) + 1)) v node R E))) (fun k => ?_) ?_
  · rw [catalog_Check.j2]
  · rw [show wrap64 ((i : Int) + 1) = ((i + 1 : Nat) : Int) from by unfold wrap64; omega]
    by_cases c0 : b = true
    · simp only [if_pos c0]; exact Ev.now _
    simp only [if_neg c0]
    by_cases c4 : i = 0
    · subst c4
      simp only [if_neg (show ¬ ((0 : Nat) : Int) > 0 from by omega), if_true]
      exact hg
    · simp only [if_pos (show (i : Int) > 0 from by omega), if_neg c4]
      rw [show wrap64 ((i : Int) - 1) = ((i - 1 : Nat) : Int) from by unfold wrap64; omega]
      simp only [if_pos (show (0 : Int) ≤ ((i - 1 : Nat) : Int) from by omega), if_pos (show ((i - 1 : Nat) : Int) < (R.length : Int) from by omega), less_f, Option.bind_some]
      by_cases c5 : lessS (rd_T24 R ((i - 1 : Nat) : Int)) (rd_T24 R (i : Int)) = true
      · simp only [if_pos c5]; exact hg
      · simp only [if_neg c5]; exact Ev.now _
theorem loop_ev (h : fitC v node R E = true) : ∀ (d i : Nat), i + d = R.length → Ev (fun k => catalog_Check.l0 k R (R.length : Int) (i : Int) v node R E) (loopC R (restC v node R E) d i)
  | 0, i, hd => by
    refine Ev.step (f := fun k => (catalog_blocked.f R).bind fun t307 => (if t307 = true then (some 90) else (catalog_Check.l1 k (R.length : Int) E (E.length : Int) 0 v node R E))) (fun k => ?_) (rest_ev h)
    rw [catalog_Check.l0, if_neg (by omega)]
  | d + 1, i, hd => by
    have hR := (fitC_out h).2.2.1
    have hi : i < R.length := by omega
    have hft := fitR_at (fitC_out h).2.1 (rd24_mem (l := R) (i := (i : Int)) (by omega) (by omega))
    have ih := loop_ev h d (i + 1) (by omega)
    have hfull := full_f (rd_T24 R (i : Int)).f0 (rd_T24 R (i : Int)).f1 (rd_T24 R (i : Int)).f2 ⟨hft.1, hft.2.1, hft.2.2.1, hft.2.2.2⟩
    unfold loopC stepC
    refine Ev.step (f := fun k => ((resource_Full.f ((rd_T24 R i).f0) ((rd_T24 R i).f1) ((rd_T24 R i).f2)).bind fun bt295 => (if bt295.2.2.2 = 0 then ((catalog_same.f k bt295.1 bt295.2.1 bt295.2.2.1 ((rd_T24 R i).f0) ((rd_T24 R i).f1) ((rd_T24 R i).f2)).bind fun t302 => (if t302 = true then (if (i : Int) > 0 then (if 0 ≤ (wrap64 ((i : Int) - 1)) then (if (wrap64 ((i : Int) - 1)) < (R.length : Int) then ((resource_Less.f ((rd_T24 R i).f0) ((rd_T24 R i).f1) ((rd_T24 R i).f2) ((rd_T24 R (wrap64 ((i : Int) - 1))).f0) ((rd_T24 R (wrap64 ((i : Int) - 1))).f1) ((rd_T24 R (wrap64 ((i : Int) - 1))).f2)).bind fun t304 => (catalog_Check.j2 k i R (R.length : Int) i t304 v node R E ((rd_T24 R i).f0) ((rd_T24 R i).f1) ((rd_T24 R i).f2))) else (none)) else (none)) else (catalog_Check.j2 k i R (R.length : Int) i false v node R E ((rd_T24 R i).f0) ((rd_T24 R i).f1) ((rd_T24 R i).f2))) else (catalog_Check.j2 k i R (R.length : Int) i true v node R E ((rd_T24 R i).f0) ((rd_T24 R i).f1) ((rd_T24 R i).f2)))) else (some bt295.2.2.2)))) (fun k => ?_) ?_
    · rw [catalog_Check.l0, if_pos (by omega), if_pos (by omega), if_pos (by omega)]
    · rw [hfull]
      simp only [Option.bind_some]
      by_cases c0 : (fullS (rd_T24 R (i : Int)).f0 (rd_T24 R (i : Int)).f1 (rd_T24 R (i : Int)).f2).2.2.2 = 0
      rotate_left
      · simp only [if_neg c0]; exact Ev.now _
      simp only [if_pos c0]
      have hout : (fullS (rd_T24 R (i : Int)).f0 (rd_T24 R (i : Int)).f1 (rd_T24 R (i : Int)).f2).2.2.1.length < 2147483648 := full_short c0
      refine Ev.bind (same_ev _ _ _ _ _ _ hout) ?_
      by_cases c1 : eqP (fullS (rd_T24 R (i : Int)).f0 (rd_T24 R (i : Int)).f1 (rd_T24 R (i : Int)).f2).2.2.1 (rd_T24 R (i : Int)).f2 = true
      rotate_left
      · simp only [if_neg c1]
        exact j2_ev h i hi ih true
      simp only [if_pos c1]
      by_cases c4 : i = 0
      · subst c4
        simp only [if_neg (show ¬ ((0 : Nat) : Int) > 0 from by omega), if_true]
        exact j2_ev h 0 hi ih false
      · simp only [if_pos (show (i : Int) > 0 from by omega), if_neg c4]
        rw [show wrap64 ((i : Int) - 1) = ((i - 1 : Nat) : Int) from by unfold wrap64; omega]
        simp only [if_pos (show (0 : Int) ≤ ((i - 1 : Nat) : Int) from by omega), if_pos (show ((i - 1 : Nat) : Int) < (R.length : Int) from by omega), less_f, Option.bind_some]
        have hj := j2_ev h i hi ih (lessS (rd_T24 R (i : Int)) (rd_T24 R ((i - 1 : Nat) : Int)))
        rw [if_neg c4] at hj
        by_cases c5 : lessS (rd_T24 R (i : Int)) (rd_T24 R ((i - 1 : Nat) : Int)) = true
        · rw [if_pos c5] at hj ⊢; exact hj
        · rw [if_neg c5] at hj ⊢
          by_cases c6 : lessS (rd_T24 R ((i - 1 : Nat) : Int)) (rd_T24 R (i : Int)) = true
          · rw [if_pos c6] at hj ⊢; exact hj
          · rw [if_neg c6] at hj ⊢; exact hj
theorem check_ev (h : fitC v node R E = true) : Ev (fun k => catalog_Check.f k v node R E) (checkC v node R E) := by
  have h1 := (fitC_out h).1
  unfold catalog_Check.f checkC
  have hg : tables_Check.f (⟨#[103, 114, 111, 117, 112, 115]⟩ : ByteArray) node [(⟨#[]⟩ : ByteArray)] = some (if keyB node = true then 0 else 51) := by
    unfold tables_Check.f
    rw [if_pos ⟨by decide, by simp only [fitB, decide_eq_true_iff]; omega, by decide, by decide⟩, check_key]
  rw [hg]
  simp only [Option.bind_some]
  have hj : ∀ b : Bool, Ev (fun k => catalog_Check.j0 k b v node R E) (if b = true then 70 else if (R.length : Int) > 32 then 5 else if (E.length : Int) > 96 then 5 else loopC R (restC v node R E) R.length 0) := fun b => by
    refine Ev.step (f := fun k => if b = true then (some 70) else (if (R.length : Int) > 32 then (some 5) else (if (E.length : Int) > 96 then (some 5) else (catalog_Check.l0 k R (R.length : Int) 0 v node R E)))) (fun k => ?_) ?_
    · rw [catalog_Check.j0]
    · by_cases c0 : b = true
      · simp only [if_pos c0]; exact Ev.now _
      by_cases c1 : (R.length : Int) > 32
      · simp only [if_neg c0, if_pos c1]; exact Ev.now _
      by_cases c2 : (E.length : Int) > 96
      · simp only [if_neg c0, if_neg c1, if_pos c2]; exact Ev.now _
      · simp only [if_neg c0, if_neg c1, if_neg c2]
        exact loop_ev h R.length 0 (by omega)
  by_cases c1 : v < 0
  · simp only [if_pos c1, if_pos (show v < 0 ∨ v ≥ 65536 ∨ keyB node = false from .inl c1)]
    exact hj true
  by_cases c2 : v ≥ 65536
  · simp only [if_neg c1, if_pos c2, if_pos (show v < 0 ∨ v ≥ 65536 ∨ keyB node = false from .inr (.inl c2))]
    exact hj true
  simp only [if_neg c1, if_neg c2]
  cases c3 : keyB node with
  | false =>
    rw [if_pos (show v < 0 ∨ v ≥ 65536 ∨ false = false from .inr (.inr rfl))]
    exact hj true
  | true =>
    rw [if_neg (show ¬ (v < 0 ∨ v ≥ 65536 ∨ true = false) from by
      rintro (h | h | h)
      · exact c1 h
      · exact c2 h
      · cases h)]
    exact hj false
theorem stepC_none {i : Nat} (h : stepC R i = none) : (fullS (rd_T24 R (i : Int)).f0 (rd_T24 R (i : Int)).f1 (rd_T24 R (i : Int)).f2).2.2.2 = 0 ∧ eqP (fullS (rd_T24 R (i : Int)).f0 (rd_T24 R (i : Int)).f1 (rd_T24 R (i : Int)).f2).2.2.1 (rd_T24 R (i : Int)).f2 = true ∧ (0 < i → lessS (rd_T24 R ((i - 1 : Nat) : Int)) (rd_T24 R (i : Int)) = true) := by
  unfold stepC at h
  by_cases c0 : (fullS (rd_T24 R (i : Int)).f0 (rd_T24 R (i : Int)).f1 (rd_T24 R (i : Int)).f2).2.2.2 = 0
  rotate_left
  · rw [if_neg c0] at h; cases h
  rw [if_pos c0] at h
  by_cases c1 : eqP (fullS (rd_T24 R (i : Int)).f0 (rd_T24 R (i : Int)).f1 (rd_T24 R (i : Int)).f2).2.2.1 (rd_T24 R (i : Int)).f2 = true
  rotate_left
  · rw [if_neg c1] at h; cases h
  rw [if_pos c1] at h
  refine ⟨c0, c1, fun hi => ?_⟩
  rw [if_neg (by omega)] at h
  by_cases c2 : lessS (rd_T24 R (i : Int)) (rd_T24 R ((i - 1 : Nat) : Int)) = true
  · rw [if_pos c2] at h; cases h
  rw [if_neg c2] at h
  by_cases c3 : lessS (rd_T24 R ((i - 1 : Nat) : Int)) (rd_T24 R (i : Int)) = true
  · exact c3
  · rw [if_neg c3] at h; cases h
theorem stepC_ne {i : Nat} {e : Int} (h : stepC R i = some e) : e ≠ 0 := by
  unfold stepC at h
  by_cases c0 : (fullS (rd_T24 R (i : Int)).f0 (rd_T24 R (i : Int)).f1 (rd_T24 R (i : Int)).f2).2.2.2 = 0
  rotate_left
  · rw [if_neg c0] at h
    obtain rfl := Option.some.inj h
    exact c0
  rw [if_pos c0] at h
  repeat' split at h
  all_goals (first | (cases h; done) | (obtain rfl := Option.some.inj h; decide))
theorem loopC_zero {rest : Int} : ∀ {d i : Nat}, loopC R rest d i = 0 → rest = 0 ∧ ∀ j, i ≤ j → j < i + d → stepC R j = none
  | 0, i, h => ⟨h, fun j h1 h2 => by omega⟩
  | d + 1, i, h => by
    unfold loopC at h
    cases hs : stepC R i with
    | some e =>
      rw [hs] at h
      exact absurd h (stepC_ne hs)
    | none =>
      rw [hs] at h
      obtain ⟨h1, h2⟩ := loopC_zero h
      refine ⟨h1, fun j h3 h4 => ?_⟩
      by_cases e : j = i
      · subst e; exact hs
      · exact h2 j (by omega) (by omega)
theorem loopE_zero {n rest : Int} : ∀ {d i : Nat}, loopE n E rest d i = 0 → rest = 0 ∧ ∀ j, i ≤ j → j < i + d → edgeOk n E j = true
  | 0, i, h => ⟨h, fun j h1 h2 => by omega⟩
  | d + 1, i, h => by
    unfold loopE at h
    by_cases c : edgeOk n E i = true
    · rw [if_pos c] at h
      obtain ⟨h1, h2⟩ := loopE_zero h
      refine ⟨h1, fun j h3 h4 => ?_⟩
      by_cases e : j = i
      · subst e; exact c
      · exact h2 j (by omega) (by omega)
    · rw [if_neg c] at h; cases h
theorem checkC_zero (h : checkC v node R E = 0) : 0 ≤ v ∧ v < 65536 ∧ keyB node = true ∧ R.length ≤ 32 ∧ E.length ≤ 96 ∧ (∀ j, j < R.length → stepC R j = none) ∧ (∀ j, j < E.length → edgeOk (R.length : Int) E j = true) ∧ (bytesC v node R E).length ≤ 2432 := by
  unfold checkC at h
  by_cases c0 : v < 0 ∨ v ≥ 65536 ∨ keyB node = false
  · rw [if_pos c0] at h; cases h
  rw [if_neg c0] at h
  by_cases c1 : (R.length : Int) > 32
  · rw [if_pos c1] at h; cases h
  rw [if_neg c1] at h
  by_cases c2 : (E.length : Int) > 96
  · rw [if_pos c2] at h; cases h
  rw [if_neg c2] at h
  obtain ⟨h1, h2⟩ := loopC_zero h
  unfold restC at h1
  by_cases c3 : blockedS R = true
  · rw [if_pos c3] at h1; cases h1
  rw [if_neg c3] at h1
  unfold edgesC at h1
  obtain ⟨h3, h4⟩ := loopE_zero h1
  unfold endC at h3
  by_cases c4 : ((bytesC v node R E).length : Int) > 2432
  · rw [if_pos c4] at h3; cases h3
  have c5 : ¬ v < 0 := fun q => c0 (.inl q)
  have c6 : ¬ v ≥ 65536 := fun q => c0 (.inr (.inl q))
  have c7 : ¬ keyB node = false := fun q => c0 (.inr (.inr q))
  exact ⟨by omega, by omega, by simpa using c7, by omega, by omega, fun j hj => h2 j (by omega) (by omega), fun j hj => h4 j (by omega) (by omega), by omega⟩
end
end Go.Proofs.YtkgafkoopefghaaGreatDoor.PA
end
