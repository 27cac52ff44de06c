/- The law ResourceTold (chapter 06): to tell what would be so anyway changes nothing: true of every input whose reading is of bulk at most 1048576, and the input reads behind the call as it read before. Conditions: the statement's own bound, and its two tables of unicode/utf8 as the program's text lays them (tied by the card). -/
import Derived.Test.YtkgafkoopefghaaDoorRt27
import Derived.Test.YtkgafkoopefghaaDoorRt5
import Derived.Test.YtkgafkoopefghaaDoorRt12
section
set_option linter.unusedVariables false
set_option linter.unusedSimpArgs false
namespace Go.Proofs.YtkgafkoopefghaaDoor.PA
open Go.RowKit Go.Maps Go.WideMaps Go.Proofs.YtkgafkoopefghaaDoor.Hk Go.Proofs.YtkgafkoopefghaaDoorW.PrintWords
theorem byt_inj {s t : ByteArray} (h : s.data.toList = t.data.toList) : s = t := ByteArray.ext (Array.ext' h)
theorem byt_iff {s t : ByteArray} : s.toList = t.data.toList ↔ s = t := by
  rw [toList_eq]
  exact ⟨byt_inj, fun h => by rw [h]⟩
def toB (l : List UInt8) : ByteArray := ⟨l.toArray⟩
theorem toB_data (s : ByteArray) : toB s.data.toList = s := by unfold toB; cases s; simp
theorem namesS_are {rs : List (ByteArray × RuleD)} {L : List (List UInt8)} (hp : (ensB.data.toList :: rs.map (·.1.data.toList)).Perm L) (hs : L.Pairwise (fun x y => leB x y = true)) : namesS rs = L := by
  unfold namesS
  refine List.Perm.eq_of_pairwise ?_ (List.pairwise_mergeSort ?_ ?_ _) hs ((List.mergeSort_perm _ _).trans hp)
  · intro a b _ _ h1 h2
    exact List.le_antisymm (of_decide_eq_true h1) (of_decide_eq_true h2)
  · intro a b c h1 h2
    exact decide_eq_true (List.le_trans (of_decide_eq_true h1) (of_decide_eq_true h2))
  · intro a b
    rcases List.le_total a b with h | h
    · simp [leB, h]
    · simp [leB, h]
theorem rd31 {l : List S34} {i : Nat} (hi : i < l.length) : rd_T34 l (i : Int) = l[i] := by unfold rd_T34; rw [Int.toNat_natCast, List.getD_eq_getElem?_getD, List.getElem?_eq_getElem hi]; rfl
theorem getS_cons (p : S34) (P : List S34) (s : ByteArray) : getS (p :: P) s = if p.f0.toList = s.toList then some p.f1 else getS P s := rfl
theorem getS_none {s : ByteArray} : ∀ {P : List S34}, s ∉ P.map (·.f0) → getS P s = none
  | [], _ => rfl
  | p :: P, h => by
    rw [List.map_cons, List.mem_cons, not_or] at h
    unfold getS
    rw [if_neg (fun e => h.1 (by rw [toList_eq, toList_eq] at e; exact (byt_inj e).symm))]
    exact getS_none h.2
theorem told_get (s : ByteArray) : ∀ (P : List S34) (o : Option ByteArray), (P.map (·.f0)).Nodup → P.foldl (fun o p => if s = p.f0 then some p.f1 else o) o = (match getS P s with | some v => some v | none => o)
  | [], o, _ => rfl
  | p :: P, o, h => by
    rw [List.map_cons, List.nodup_cons] at h
    rw [List.foldl_cons, told_get s P _ h.2, getS_cons]
    by_cases c : s = p.f0
    · subst c
      rw [if_pos rfl, if_pos rfl, getS_none h.1]
    · rw [if_neg c, if_neg (fun e => c (by rw [toList_eq, toList_eq] at e; exact (byt_inj e).symm))]
theorem told_none (s : ByteArray) (hs : s ≠ ensB) (ens : ByteArray) (P : List S34) : (toldAt ens P s).isNone = (getS P s).isNone := by
  have h : ∀ (P : List S34) (o : Option ByteArray), (P.foldl (fun o p => if s = p.f0 then some p.f1 else o) o).isNone = (o.isNone && (getS P s).isNone) := by
    intro P
    induction P with
    | nil => intro o; simp [getS]
    | cons p P ih =>
      intro o
      rw [List.foldl_cons, ih, getS_cons]
      by_cases c : s = p.f0
      · subst c
        rw [if_pos rfl, if_pos rfl]; simp
      · rw [if_neg c, if_neg (fun e => c (by rw [toList_eq, toList_eq] at e; exact (byt_inj e).symm))]
  unfold toldAt
  rw [h, if_neg hs]
  rfl
theorem okP_lt {rs : List (ByteArray × RuleD)} {P : List S34} (h : okP rs P = true) {i : Nat} (h0 : 0 < i) (hi : i < P.length) : P[i - 1].f0.data.toList < P[i].f0.data.toList := by
  have h1 := List.all_eq_true.1 h i (List.mem_range.2 hi)
  unfold stepOk at h1
  rw [rd31 hi, rd31 (by omega), decide_eq_false (by omega), Bool.false_or, Bool.and_eq_true] at h1
  have h2 := h1.2
  unfold leS at h2
  rw [less_or_eq, Bool.not_not, bytesLess_eq, toList_eq, toList_eq] at h2
  exact of_decide_eq_true h2
theorem okP_rise {rs : List (ByteArray × RuleD)} {P : List S34} (h : okP rs P = true) : ∀ (d i : Nat) (hi : i + d + 1 < P.length), P[i].f0.data.toList < P[i + d + 1].f0.data.toList
  | 0, i, hi => okP_lt h (i := i + 1) (by omega) hi
  | d + 1, i, hi => List.lt_trans (okP_rise h d i (by omega)) (okP_lt h (i := i + (d + 1) + 1) (by omega) hi)
theorem okP_nodup {rs : List (ByteArray × RuleD)} {P : List S34} (h : okP rs P = true) : (P.map (·.f0)).Nodup := by
  unfold List.Nodup
  rw [List.pairwise_iff_getElem]
  intro i j hi hj hij e
  rw [List.length_map] at hi hj
  rw [List.getElem_map, List.getElem_map] at e
  obtain ⟨d, rfl⟩ : ∃ d, j = i + d + 1 := ⟨j - i - 1, by omega⟩
  have := okP_rise h d i hj
  rw [e] at this
  exact List.lt_irrefl _ this
def ensR (first : ByteArray) (P : List S34) : ByteArray := (getS P ensB).getD first
theorem full_f (a b : ByteArray) (l : List S34) (h : a.size < 2147483648 ∧ b.size < 2147483648 ∧ l.length < 2147483648 ∧ fitP l = true) : resource_Full.f a b l = some (fullS a b l) := by
  unfold resource_Full.f
  rw [if_pos h]
theorem fullS_iff {kind a first ens : ByteArray} {specs : List (ByteArray × List (ByteArray × RuleD))} {rs : List (ByteArray × RuleD)} {P : List S34} (h1 : shapesD kind = some (first, specs)) (h2 : titleS kind a = true) (h3 : ensR first P = ens) (h4 : findK specs ens = some rs) :
    fullS kind a P = if okP rs P = true then (if lacks ens P rs = true then (⟨#[]⟩, ⟨#[]⟩, [], 62) else (kind, a, outS ens P rs, 0)) else (⟨#[]⟩, ⟨#[]⟩, [], 62) := by
  have hr : (getS P ensB).getD first = ens := h3
  unfold fullS
  rw [h1]
  simp only [hr]
  rw [if_pos h2, h4]
theorem fullS_none {kind a first ens : ByteArray} {specs : List (ByteArray × List (ByteArray × RuleD))} {P : List S34} (h1 : shapesD kind = some (first, specs)) (h2 : titleS kind a = true) (h3 : ensR first P = ens) (h4 : findK specs ens = none) :
    fullS kind a P = (⟨#[]⟩, ⟨#[]⟩, [], 62) := by
  have hr : (getS P ensB).getD first = ens := h3
  unfold fullS
  rw [h1]
  simp only [hr]
  rw [if_pos h2, h4]
theorem fullS_all {kind a : ByteArray} {P : List S34} (h : (fullS kind a P).2.2.2 = 0) : ∃ first specs rs, shapesD kind = some (first, specs) ∧ titleS kind a = true ∧ findK specs (ensR first P) = some rs ∧ okP rs P = true ∧ lacks (ensR first P) P rs = false ∧ fullS kind a P = (kind, a, outS (ensR first P) P rs, 0) := by
  cases hs : shapesD kind with
  | none => unfold fullS at h; rw [hs] at h; cases h
  | some q =>
    obtain ⟨first, specs⟩ := q
    by_cases ht : titleS kind a = true
    · cases hf : findK specs (ensR first P) with
      | none => rw [fullS_none hs ht rfl hf] at h; cases h
      | some rs =>
        rw [fullS_iff hs ht rfl hf] at h ⊢
        by_cases c : okP rs P = true
        · rw [if_pos c] at h ⊢
          by_cases c2 : lacks (ensR first P) P rs = true
          · rw [if_pos c2] at h; cases h
          · rw [if_neg c2]
            exact ⟨first, specs, rs, rfl, ht, hf, c, Bool.eq_false_iff.2 c2, rfl⟩
        · rw [if_neg c] at h; cases h
    · unfold fullS at h
      rw [hs] at h
      simp only [] at h
      rw [if_neg ht] at h
      cases h
theorem okP_iff {rs : List (ByteArray × RuleD)} {P : List S34} : okP rs P = true ↔ (∀ p, p ∈ P → knownS rs p = true) ∧ (P.map (·.f0.data.toList)).Pairwise (· < ·) := by
  constructor
  · intro h
    refine ⟨fun p hp => ?_, ?_⟩
    · obtain ⟨i, hi, rfl⟩ := List.mem_iff_getElem.1 hp
      have h1 := List.all_eq_true.1 h i (List.mem_range.2 hi)
      unfold stepOk at h1
      rw [rd31 hi, Bool.and_eq_true] at h1
      exact h1.1
    · rw [List.pairwise_iff_getElem]
      intro i j hi hj hij
      rw [List.length_map] at hi hj
      rw [List.getElem_map, List.getElem_map]
      obtain ⟨d, rfl⟩ : ∃ d, j = i + d + 1 := ⟨j - i - 1, by omega⟩
      exact okP_rise h d i hj
  · rintro ⟨h1, h2⟩
    refine List.all_eq_true.2 fun i hi => ?_
    have hi := List.mem_range.1 hi
    unfold stepOk
    rw [rd31 hi, h1 _ (List.getElem_mem hi), Bool.true_and]
    by_cases c : i = 0
    · rw [decide_eq_true c, Bool.true_or]
    · rw [decide_eq_false c, Bool.false_or, rd31 (show i - 1 < P.length by omega)]
      rw [List.pairwise_iff_getElem] at h2
      have h3 := h2 (i - 1) i (by rw [List.length_map]; omega) (by rw [List.length_map]; exact hi) (by omega)
      rw [List.getElem_map, List.getElem_map] at h3
      unfold leS
      rw [less_or_eq, Bool.not_not, bytesLess_eq, toList_eq, toList_eq]
      exact decide_eq_true h3
def dfltB (rs : List (ByteArray × RuleD)) : Bool := rs.all fun x => x.2.must || x.2.may x.2.dflt
theorem dflt_shapes {kind first : ByteArray} {specs : List (ByteArray × List (ByteArray × RuleD))} (h : shapesD kind = some (first, specs)) : specs.all (fun x => dfltB x.2) = true := by
  unfold shapesD at h
  repeat' split at h
  all_goals (first | (cases h; kernel_rfl) | cases h)
theorem dflt_ok {kind first ens : ByteArray} {specs : List (ByteArray × List (ByteArray × RuleD))} {rs : List (ByteArray × RuleD)} (h : shapesD kind = some (first, specs)) (hf : findK specs ens = some rs) {s : ByteArray} {q : RuleD} (hq : findK rs s = some q) (hm : q.must = false) : q.may q.dflt = true := by
  have h1 := List.all_eq_true.1 (dflt_shapes h) _ (findK_mem hf)
  have h2 := List.all_eq_true.1 h1 _ (findK_mem hq)
  simp only [hm, Bool.false_or] at h2
  exact h2
theorem namesS_mem {rs : List (ByteArray × RuleD)} {x : List UInt8} : x ∈ namesS rs ↔ x = ensB.data.toList ∨ ∃ y, y ∈ rs ∧ y.1.data.toList = x := by
  unfold namesS
  rw [List.mem_mergeSort, List.mem_cons, List.mem_map]
theorem namesS_sorted {rs : List (ByteArray × RuleD)} (he : findK rs ensB = none) (ho : once rs = true) : (namesS rs).Pairwise (· < ·) := by
  have hs : (namesS rs).Pairwise (fun x y => leB x y = true) := by
    refine List.pairwise_mergeSort ?_ ?_ _
    · intro a b c h1 h2
      exact decide_eq_true (List.le_trans (of_decide_eq_true h1) (of_decide_eq_true h2))
    · intro a b
      rcases List.le_total a b with h | h
      · simp [leB, h]
      · simp [leB, h]
  have hn : (namesS rs).Nodup := by
    unfold namesS
    rw [(List.mergeSort_perm _ _).nodup_iff, List.nodup_cons]
    refine ⟨fun hm => ?_, ?_⟩
    · obtain ⟨y, hy, e⟩ := List.mem_map.1 hm
      have := findK_some_mem.2 (List.mem_map.2 ⟨y, hy, byt_inj e⟩ : ensB ∈ rs.map (·.1))
      rw [he] at this
      cases this
    · have h1 := once_nodup ho
      have e : rs.map (fun x => x.1.data.toList) = (rs.map (·.1)).map (fun s => s.data.toList) := by rw [List.map_map]; rfl
      rw [e]
      unfold List.Nodup at h1 ⊢
      rw [List.pairwise_map]
      exact h1.imp fun hne e => hne (byt_inj e)
  unfold List.Nodup at hn
  refine (hs.and hn).imp fun {x y} h => ?_
  rcases List.le_iff_lt_or_eq.1 (of_decide_eq_true h.1) with h1 | h1
  · exact h1
  · exact (h.2 h1).elim
theorem getS_map (g : ByteArray → ByteArray) (s : ByteArray) : ∀ L : List (List UInt8), getS (L.map fun n => (⟨⟨n.toArray⟩, g ⟨n.toArray⟩⟩ : S34)) s = if s.data.toList ∈ L then some (g s) else none
  | [] => rfl
  | n :: L => by
    rw [List.map_cons, getS_cons]
    by_cases c : s.data.toList = n
    · subst c
      have e : (⟨s.data.toList.toArray⟩ : ByteArray) = s := toB_data s
      rw [e, if_pos rfl, if_pos (List.mem_cons_self)]
    · have hne : ¬ (⟨n.toArray⟩ : ByteArray).toList = s.toList := by
        rw [toList_eq, toList_eq]
        exact fun h => c h.symm
      simp only [if_neg hne]
      rw [getS_map g s L]
      by_cases d : s.data.toList ∈ L
      · rw [if_pos d, if_pos (List.mem_cons_of_mem _ d)]
      · rw [if_neg d, if_neg (fun h => (List.mem_cons.1 h).elim c d)]
theorem getS_out (ens : ByteArray) (P : List S34) (rs : List (ByteArray × RuleD)) (s : ByteArray) : getS (outS ens P rs) s = if s.data.toList ∈ namesS rs then some ((fullAt ens P rs s).getD ⟨#[]⟩) else none := getS_map (fun s => (fullAt ens P rs s).getD ⟨#[]⟩) s _
theorem fullAt_eq {ens : ByteArray} {P : List S34} {rs : List (ByteArray × RuleD)} (hok : okP rs P = true) (s : ByteArray) : fullAt ens P rs s = match getS P s with | some v => some v | none => if s = ensB then some ens else (findK rs s).map (·.dflt) := by
  unfold fullAt toldAt
  rw [told_get _ _ _ (okP_nodup hok)]
  cases getS P s with
  | some v => rfl
  | none =>
    by_cases c : s = ensB
    · rw [if_pos c]; simp [c]
    · rw [if_neg c]; simp [c]
theorem getS_mem {s v : ByteArray} : ∀ {P : List S34}, getS P s = some v → (⟨s, v⟩ : S34) ∈ P
  | [], h => by cases h
  | p :: P, h => by
    rw [getS_cons] at h
    by_cases c : p.f0.toList = s.toList
    · rw [if_pos c] at h
      cases h
      rw [toList_eq, toList_eq] at c
      have := byt_inj c
      subst this
      exact .head _
    · rw [if_neg c] at h
      exact .tail _ (getS_mem h)
theorem known_ensB (rs : List (ByteArray × RuleD)) (v : ByteArray) : knownS rs ⟨ensB, v⟩ = true := by
  unfold knownS
  have : (ensB.toList == ([101, 110, 115, 117, 114, 101] : List UInt8)) = true := by rw [toList_eq]; rfl
  rw [this, Bool.true_or]
theorem known_at {rs : List (ByteArray × RuleD)} {s v : ByteArray} (hs : s ≠ ensB) {q : RuleD} (hq : findK rs s = some q) : knownS rs ⟨s, v⟩ = q.may v := by
  unfold knownS
  have : (s.toList == ([101, 110, 115, 117, 114, 101] : List UInt8)) = false := by
    rw [beq_eq_false_iff_ne]
    exact fun h => hs ((byt_iff (t := ensB)).1 h)
  rw [this, hq, Bool.false_or]
end Go.Proofs.YtkgafkoopefghaaDoor.PA
end
section
set_option linter.unusedVariables false
set_option linter.unusedSimpArgs false
namespace Go.Proofs.YtkgafkoopefghaaDoor.PA
open Go.RowKit Go.Maps Go.WideMaps Go.Proofs.YtkgafkoopefghaaDoor.Hk Go.Proofs.YtkgafkoopefghaaDoorW.PrintWords
theorem s31_iff (x y : S34) : x = y ↔ x.f0 = y.f0 ∧ x.f1 = y.f1 := ⟨fun h => by rw [h]; exact ⟨rfl, rfl⟩, fun h => by cases x; cases y; simp only at h; rw [h.1, h.2]⟩
instance : DecidableEq S34 := fun x y => decidable_of_iff (x.f0 = y.f0 ∧ x.f1 = y.f1) (s31_iff x y).symm
end Go.Proofs.YtkgafkoopefghaaDoor.PA
end
