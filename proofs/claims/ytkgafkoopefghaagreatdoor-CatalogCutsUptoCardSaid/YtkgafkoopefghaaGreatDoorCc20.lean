/- A part of this law; its conditions stand in the last text. -/
import Derived.Test.YtkgafkoopefghaaGreatDoorCc1
import Derived.RegionTactic
section
set_option linter.unusedVariables false
set_option linter.unusedSimpArgs false
namespace Go.Proofs.YtkgafkoopefghaaGreatDoor.Hk
open Go Go.RowKit Go.Proofs.YtkgafkoopefghaaGreatDoorW.PrintLast
theorem count_set_lt : ∀ (l : List Bool) (i : Nat), l.getD i true = false → (l.set i true).count false + 1 = l.count false
  | [], i, h => by simp at h
  | x :: l, 0, h => by
    simp only [List.getD_cons_zero] at h
    subst h
    simp
  | x :: l, i + 1, h => by
    simp only [List.getD_cons_succ] at h
    have := count_set_lt l i h
    simp only [List.set_cons_succ, List.count_cons]
    omega
def readyN (N : List (List Nat)) (l : List Bool) (i : Nat) : Bool := !l.getD i true && (N.getD i []).all (fun j => l.getD j false)
theorem readyAt_N {T : List (List Nat × List Nat)} {N : List (List Nat)} (h : T.map (·.1) = N) {l : List Bool} {i : Nat} (hi : i < T.length) : readyAt T l i = readyN N l i := by
  subst h
  unfold readyAt readyN
  rw [List.getElem?_eq_getElem hi, List.getD_eq_getElem?_getD (l := T.map _), List.getElem?_map, List.getElem?_eq_getElem hi]
  rfl
theorem ready_open {T : List (List Nat × List Nat)} {l : List Bool} {i : Nat} (h : readyAt T l i = true) : l.getD i true = false := by
  unfold readyAt at h
  simp only [Bool.and_eq_true, Bool.not_eq_true'] at h
  exact h.1
theorem wpAny_inv {P : Program} {ops : Array Oper} {Q : Exit → Act → World → Prop} {T : List (List Nat)} (hT : (rtab .any ops).2.map (·.1) = T) (Inv : List Bool → Act → World → Prop)
    (hstep : ∀ l a w i, Inv l a w → i < T.length → readyN T l i = true → wpOp P ops Q i (Inv (l.set i true)) a w)
    (hdone : ∀ l a w, Inv l a w → (∀ i, i < T.length → readyN T l i = false) → Q .normal a w) :
    ∀ (fuel : Nat) (l : Array Bool) (a : Act) (w : World), l.toList.count false ≤ fuel → Inv l.toList a w → wpAny P .any ops Q fuel l a w := by
  have hdn : ∀ (l : Array Bool) a w, Inv l.toList a w → Region.ready .any ops l = [] → Q .normal a w := fun l a w hi hr => by
    refine hdone _ _ _ hi fun i hlt => ?_
    rw [ready_eq] at hr
    have hlt2 : i < (rtab .any ops).2.length := by rw [← hT, List.length_map] at hlt; exact hlt
    have := List.filter_eq_nil_iff.1 hr i (List.mem_range.2 hlt2)
    rw [readyAt_N hT hlt2] at this
    simpa using this
  intro fuel
  induction fuel with
  | zero =>
    intro l a w hc hi
    have hr : Region.ready .any ops l = [] := by
      rw [ready_eq]
      refine List.filter_eq_nil_iff.2 fun i _ h => ?_
      have h1 := count_set_lt _ _ (ready_open h)
      omega
    exact ⟨hr, hdn l a w hi hr⟩
  | succ fuel ih =>
    intro l a w hc hi
    refine ⟨hdn l a w hi, fun i hmem => ?_⟩
    rw [ready_eq] at hmem
    have hm := List.mem_filter.1 hmem
    have hlt2 := List.mem_range.1 hm.1
    have hrd := hm.2
    rw [readyAt_N hT hlt2] at hrd
    have h1 := count_set_lt _ _ (ready_open hm.2)
    refine wpOp_mono (fun a' w' h' => ih (l.setIfInBounds i true) a' w' ?_ ?_) (hstep _ a w i hi (by rw [← hT, List.length_map]; exact hlt2) hrd)
    · rw [Array.toList_setIfInBounds]; omega
    · rw [Array.toList_setIfInBounds]; exact h'
theorem region_inv {P : Program} {ops : Array Oper} {Q : Exit → Act → World → Prop} {T : List (List Nat)} {id : Nat} {a : Act} {w : World} (hT : (rtab .any ops).2.map (·.1) = T) (Inv : List Bool → Act → World → Prop) (hm : P.follows .mixedOrders = true)
    (h0 : Inv (List.replicate ops.size false) a w.drew)
    (hstep : ∀ l a w i, Inv l a w → i < T.length → readyN T l i = true → wpOp P ops Q i (Inv (l.set i true)) a w)
    (hdone : ∀ l a w, Inv l a w → (∀ i, i < T.length → readyN T l i = false) → Q .normal a w) : (Code.region id ops true).wp P Q a w :=
  wp_region_any hm (wpAny_inv hT Inv hstep hdone _ _ _ _ (by rw [Array.toList_replicate, List.count_replicate_self]; exact Nat.le_refl _) (by rw [Array.toList_replicate]; exact h0))
end Go.Proofs.YtkgafkoopefghaaGreatDoor.Hk
end
section
set_option linter.unusedVariables false
set_option linter.unusedSimpArgs false
namespace Go.Proofs.YtkgafkoopefghaaGreatDoor.Hk
open Go Go.RowKit Go.Proofs.YtkgafkoopefghaaGreatDoorW.PrintLast
def actE (a0 : Act) : List Bool → List Tmp → List Value → Act
  | x :: l, d :: D, e :: E => if x = true then (actE a0 l D E).put (some d) e else actE a0 l D E
  | _, _, _ => a0
theorem put_size (a : Act) (d : Tmp) (e : Value) : (a.put (some d) e).tmps.size = a.tmps.size := by simp [Act.put]
theorem put_at (a : Act) (d k : Tmp) (e : Value) : (a.put (some d) e).tmps[k]? = if d = k then (if k < a.tmps.size then some e else none) else a.tmps[k]? := by
  simp only [Act.put, Array.getElem?_setIfInBounds]
  by_cases h : d = k
  · subst h; simp
  · rw [if_neg h, if_neg h]
theorem put_put (a : Act) (d k : Tmp) (e f : Value) (h : d ≠ k) : (a.put (some d) e).put (some k) f = (a.put (some k) f).put (some d) e := by
  simp only [Act.put]
  rw [Array.setIfInBounds_comm _ _ h]
theorem actE_size (a0 : Act) : ∀ (l : List Bool) (D : List Tmp) (E : List Value), (actE a0 l D E).tmps.size = a0.tmps.size
  | [], _, _ => by simp [actE]
  | _ :: _, [], _ => by simp [actE]
  | _ :: _, _ :: _, [] => by simp [actE]
  | x :: l, d :: D, e :: E => by
    unfold actE
    by_cases h : x = true
    · rw [if_pos h, put_size]; exact actE_size a0 l D E
    · rw [if_neg h]; exact actE_size a0 l D E
theorem actE_other (a0 : Act) (k : Tmp) : ∀ (l : List Bool) (D : List Tmp) (E : List Value), k ∉ D → (actE a0 l D E).tmps[k]? = a0.tmps[k]?
  | [], _, _, _ => by simp [actE]
  | _ :: _, [], _, _ => by simp [actE]
  | _ :: _, _ :: _, [], _ => by simp [actE]
  | x :: l, d :: D, e :: E, h => by
    have h1 : d ≠ k := fun q => h (by rw [q]; exact .head _)
    have h2 : k ∉ D := fun q => h (.tail _ q)
    unfold actE
    by_cases hx : x = true
    · rw [if_pos hx, put_at, if_neg h1]; exact actE_other a0 k l D E h2
    · rw [if_neg hx]; exact actE_other a0 k l D E h2
theorem actE_at (a0 : Act) : ∀ (l : List Bool) (D : List Tmp) (E : List Value) (i : Nat), D.Nodup → E.length = D.length → (∀ d, d ∈ D → d < a0.tmps.size) → i < D.length → l.getD i false = true → (actE a0 l D E).tmps[D.getD i 0]? = some (E.getD i undef)
  | [], _, _, i, _, _, _, _, h => by simp at h
  | _ :: _, [], _, i, _, _, _, hi, _ => by simp at hi
  | _ :: _, _ :: _, [], i, _, hl, _, _, _ => by simp at hl
  | x :: l, d :: D, e :: E, 0, hn, hl, hd, hi, h => by
    simp only [List.getD_cons_zero] at h
    subst h
    unfold actE
    simp only [List.getD_cons_zero]
    rw [if_pos trivial, put_at, if_pos rfl, if_pos (by rw [actE_size]; exact hd d (.head _))]
  | x :: l, d :: D, e :: E, i + 1, hn, hl, hd, hi, h => by
    simp only [List.getD_cons_succ] at h ⊢
    have hi' : i < D.length := by simpa using hi
    have ih := actE_at a0 l D E i (List.nodup_cons.1 hn).2 (by simpa using hl) (fun q hq => hd q (.tail _ hq)) hi' h
    have hm : D.getD i 0 ∈ D := by rw [List.getD_eq_getElem?_getD, List.getElem?_eq_getElem hi']; exact List.getElem_mem hi'
    have h1 : d ≠ D.getD i 0 := fun q => (List.nodup_cons.1 hn).1 (by rw [q]; exact hm)
    unfold actE
    by_cases hx : x = true
    · rw [if_pos hx, put_at, if_neg h1]; exact ih
    · rw [if_neg hx]; exact ih
theorem actE_set (a0 : Act) : ∀ (l : List Bool) (D : List Tmp) (E : List Value) (i : Nat), D.Nodup → E.length = D.length → i < D.length → l.getD i true = false → actE a0 (l.set i true) D E = (actE a0 l D E).put (some (D.getD i 0)) (E.getD i undef)
  | [], _, _, i, _, _, _, h => by simp at h
  | _ :: _, [], _, i, _, _, hi, _ => by simp at hi
  | _ :: _, _ :: _, [], i, _, hl, _, _ => by simp at hl
  | x :: l, d :: D, e :: E, 0, hn, hl, hi, h => by
    simp only [List.getD_cons_zero] at h
    subst h
    simp only [List.set_cons_zero, List.getD_cons_zero]
    rfl
  | x :: l, d :: D, e :: E, i + 1, hn, hl, hi, h => by
    simp only [List.getD_cons_succ, List.set_cons_succ] at h ⊢
    have hi' : i < D.length := by simpa using hi
    have ih := actE_set a0 l D E i (List.nodup_cons.1 hn).2 (by simpa using hl) hi' h
    have hm : D.getD i 0 ∈ D := by rw [List.getD_eq_getElem?_getD, List.getElem?_eq_getElem hi']; exact List.getElem_mem hi'
    have h1 : d ≠ D.getD i 0 := fun q => (List.nodup_cons.1 hn).1 (by rw [q]; exact hm)
    unfold actE
    by_cases hx : x = true
    · rw [if_pos hx, if_pos hx, ih, put_put _ _ _ _ _ h1.symm]
    · rw [if_neg hx, if_neg hx, ih]
theorem all_true : ∀ (l : List Bool), (∀ i, i < l.length → l.getD i true = true) → l = List.replicate l.length true
  | [], _ => rfl
  | x :: l, h => by
    have h0 := h 0 (by simp)
    simp only [List.getD_cons_zero] at h0
    subst h0
    have := all_true l (fun i hi => by have := h (i + 1) (by simpa using hi); simpa using this)
    simp only [List.length_cons, List.replicate_succ]
    rw [← this]
theorem region_exp {P : Program} {ops : Array Oper} {Q : Exit → Act → World → Prop} {N : List (List Nat)} {D : List Tmp} {E : List Value} (S : World → Prop) {id : Nat} {a0 : Act} {w : World}
    (hT : (rtab .any ops).2.map (·.1) = N) (hm : P.follows .mixedOrders = true) (hsort : (List.range N.length).all (fun i => (N.getD i []).all (fun j => decide (j < i))) = true)
    (hD : D.length = N.length) (hE : E.length = N.length) (hnd : D.Nodup) (hin : ∀ d, d ∈ D → d < a0.tmps.size) (hS : S w.drew)
    (hstep : ∀ i, i < N.length → ∀ (a : Act) (W : World), S W → a.tmps.size = a0.tmps.size → (∀ j, j ∈ N.getD i [] → a.tmps[D.getD j 0]? = some (E.getD j undef)) → (∀ k, k ∉ D → a.tmps[k]? = a0.tmps[k]?) → wpOp P ops Q i (fun a' W' => a' = a.put (some (D.getD i 0)) (E.getD i undef) ∧ S W') a W)
    (hdone : ∀ W, S W → Q .normal (actE a0 (List.replicate N.length true) D E) W) : (Code.region id ops true).wp P Q a0 w := by
  have hsz : ops.size = N.length := by
    have := congrArg List.length hT
    rw [List.length_map, rtab_length] at this
    exact this
  refine region_inv hT (fun l a W => l.length = N.length ∧ a = actE a0 l D E ∧ S W) hm ⟨by simp [hsz], ?_, hS⟩ ?_ ?_
  · have : ∀ (n : Nat) (D : List Tmp) (E : List Value), actE a0 (List.replicate n false) D E = a0 := by
      intro n
      induction n with
      | zero => intro D E; rfl
      | succ n ih =>
        intro D E
        cases D with
        | nil => rfl
        | cons d D =>
          cases E with
          | nil => rfl
          | cons e E => exact ih D E
    exact (this _ _ _).symm
  · rintro l a W i ⟨hl, rfl, hs⟩ hi hr
    unfold readyN at hr
    simp only [Bool.and_eq_true, Bool.not_eq_true'] at hr
    refine wpOp_mono (fun a' W' h => ⟨by simp [hl], ?_, h.2⟩) (hstep i hi _ W hs (actE_size _ _ _ _) (fun j hj => ?_) (fun k hk => actE_other a0 k l D E hk))
    · rw [actE_set a0 l D E i hnd (by omega) (by omega) hr.1]; exact h.1
    · have h1 := List.all_eq_true.1 hr.2 j hj
      have h2 := List.all_eq_true.1 hsort i (List.mem_range.2 hi)
      have h3 := List.all_eq_true.1 h2 j hj
      have h4 := of_decide_eq_true h3
      exact actE_at a0 l D E j hnd (by omega) hin (by omega) h1
  · rintro l a W ⟨hl, rfl, hs⟩ hn
    have hall : ∀ n i, i < n → i < N.length → l.getD i true = true := by
      intro n
      induction n with
      | zero => intro i h; omega
      | succ n ih =>
        intro i hin' hi
        have h := hn i hi
        cases hc : l.getD i true with
        | true => rfl
        | false =>
          unfold readyN at h
          rw [hc] at h
          simp only [Bool.not_false, Bool.true_and] at h
          rw [Bool.eq_false_iff] at h
          exfalso
          refine h (List.all_eq_true.2 fun j hj => ?_)
          have h2 := List.all_eq_true.1 hsort i (List.mem_range.2 hi)
          have h4 := of_decide_eq_true (List.all_eq_true.1 h2 j hj)
          have h5 := ih j (by omega) (by omega)
          rw [List.getD_eq_getElem?_getD] at h5 ⊢
          rw [List.getElem?_eq_getElem (by omega)] at h5 ⊢
          exact h5
    have he := all_true l (fun i hi => hall (i + 1) i (by omega) (by omega))
    rw [he, hl]
    exact hdone W hs
section
variable {P : Program} {ops : Array Oper} {o : Oper} {a : Act} {w : World} {K : Act → World → Prop} {Q : Exit → Act → World → Prop}
theorem eval_tmp {d : Tmp} {v : Value} (h : a.tmps[d]? = some v) : a.eval (.tmp d) = v := by
  show a.tmps.getD d undef = v
  rw [Array.getD_eq_getD_getElem?, h]; rfl
theorem op_yields {i : Nat} {v : Value} {S : World → Prop} (ho : ops[i]? = some o) (hw : Region.wanted o (yielded ops a.tmps) = true) (hrun : (execOp a.eval o).run P w = .ok (.value v) w) (hS : S w) {d : Tmp} (hd : o.dst = some d) : wpOp P ops Q i (fun a' W' => a' = a.put (some d) v ∧ S W') a w := by
  refine wpOp_step ho (fun K hK => ?_)
  rw [if_pos hw]
  unfold Oper.wp
  rw [hrun]
  show K (a.put o.dst v) w
  rw [hd]
  exact hK _ _ ⟨rfl, hS⟩
theorem op_struck {i : Nat} {S : World → Prop} (ho : ops[i]? = some o) (hw : Region.wanted o (yielded ops a.tmps) = false) (hS : S w) {d : Tmp} (hd : o.dst = some d) : wpOp P ops Q i (fun a' W' => a' = a.put (some d) undef ∧ S W') a w := by
  refine wpOp_step ho (fun K hK => ?_)
  rw [if_neg (by rw [hw]; decide)]
  rw [hd]
  exact hK _ _ ⟨rfl, hS⟩
theorem op_step {i : Nat} {R : Act → World → Prop} (ho : ops[i]? = some o) (hw : Region.wanted o (yielded ops a.tmps) = true) (h : ∀ K : Act → World → Prop, (∀ a' W', R a' W' → K a' W') → Oper.wp P o a w K Q) : wpOp P ops Q i R a w := by
  refine wpOp_step ho (fun K hK => ?_)
  rw [if_pos hw]
  exact h K hK
theorem wanted_none (h : o.guard = none) (y : Nat → Option Bool) : Region.wanted o y = true := by unfold Region.wanted; rw [h]
theorem wanted_some {j : Nat} {want b : Bool} {d : Tmp} (h : o.guard = some (j, want)) (hj : (ops[j]?).bind (·.dst) = some d) (hv : a.tmps[d]? = some (.bool b)) : Region.wanted o (yielded ops a.tmps) = (b == want) := by
  unfold Region.wanted yielded
  rw [h]
  simp only [hj, Option.bind_some, hv]
  cases b <;> cases want <;> rfl
end
end Go.Proofs.YtkgafkoopefghaaGreatDoor.Hk
end
