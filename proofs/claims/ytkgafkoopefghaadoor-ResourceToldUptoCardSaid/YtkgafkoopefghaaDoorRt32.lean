/- The law ResourceTold (chapter 06): to tell what would be so anyway changes nothing: true of every input whose reading is of bulk at most 1048576, and the input reads behind the call as it read before. Conditions: the statement's own bound, and its two tables of unicode/utf8 as the program's text lays them (tied by the card). -/
import Derived.Test.YtkgafkoopefghaaDoorRt30
import Derived.Test.YtkgafkoopefghaaDoorRt29
import Derived.Test.YtkgafkoopefghaaDoorRt31
section
set_option linter.unusedVariables false
set_option linter.unusedSimpArgs false
namespace Go.Proofs.YtkgafkoopefghaaDoor.PA
open Go.RowKit Go.Maps Go.WideMaps Go.Proofs.YtkgafkoopefghaaDoor.Hk Go.Proofs.YtkgafkoopefghaaDoorW.PrintWords
theorem get_k (a b n : ByteArray) (l : List S34) (hl : l.length ≤ 9223372036854775806) (k : Nat) (hk : l.length < k) : resource_Get.f k a b l n = some (toldR (getS l n)) := get_l0 n l hl k 0 (by omega) (by omega)
theorem out_names (ens : ByteArray) (P : List S34) (rs : List (ByteArray × RuleD)) : (outS ens P rs).map (·.f0.data.toList) = namesS rs := by
  unfold outS
  rw [List.map_map]
  exact List.map_id _
theorem out_mem {ens : ByteArray} {P : List S34} {rs : List (ByteArray × RuleD)} {p : S34} (h : p ∈ outS ens P rs) : p.f0.data.toList ∈ namesS rs ∧ p.f1 = (fullAt ens P rs p.f0).getD ⟨#[]⟩ := by
  unfold outS at h
  obtain ⟨n, hn, rfl⟩ := List.mem_map.1 h
  exact ⟨hn, rfl⟩
theorem name_cases {rs : List (ByteArray × RuleD)} {s : ByteArray} (h : s.data.toList ∈ namesS rs) : s = ensB ∨ ∃ q, findK rs s = some q := by
  rcases namesS_mem.1 h with h | ⟨y, hy, e⟩
  · exact .inl (byt_inj h)
  · refine .inr (Option.isSome_iff_exists.1 (findK_some_mem.2 ?_))
    exact List.mem_map.2 ⟨y, hy, byt_inj e⟩
theorem name_in {rs : List (ByteArray × RuleD)} {s : ByteArray} (h : s = ensB ∨ (findK rs s).isSome = true) : s.data.toList ∈ namesS rs := by
  rcases h with rfl | h
  · exact namesS_mem.2 (.inl rfl)
  · obtain ⟨y, hy, e⟩ := List.mem_map.1 (findK_some_mem.1 h)
    exact namesS_mem.2 (.inr ⟨y, hy, by rw [e]⟩)
theorem not_must {ens : ByteArray} {P : List S34} {rs : List (ByteArray × RuleD)} (hl : lacks ens P rs = false) {s : ByteArray} (hs : s ≠ ensB) {q : RuleD} (hq : findK rs s = some q) (hg : getS P s = none) : q.must = false := by
  cases hm : q.must with
  | false => rfl
  | true =>
    unfold lacks at hl
    rw [List.any_eq_false] at hl
    have := hl _ (findK_mem hq)
    rw [told_none s hs, hg, hm] at this
    exact (this rfl).elim
theorem getS_self {P : List S34} (hn : (P.map (·.f0)).Nodup) {p : S34} (hp : p ∈ P) : getS P p.f0 = some p.f1 := by
  induction P with
  | nil => cases hp
  | cons x P ih =>
    rw [List.map_cons, List.nodup_cons] at hn
    rw [getS_cons]
    rcases List.mem_cons.1 hp with rfl | hp
    · rw [if_pos rfl]
    · rw [if_neg, ih hn.2 hp]
      intro e
      rw [toList_eq, toList_eq] at e
      exact hn.1 (by rw [byt_inj e]; exact List.mem_map.2 ⟨p, hp, rfl⟩)
/-- What stands of a resource that was taken. -/
structure Taken (kind a : ByteArray) (P : List S34) (first ens : ByteArray) (specs : List (ByteArray × List (ByteArray × RuleD))) (rs : List (ByteArray × RuleD)) : Prop where
  shape : shapesD kind = some (first, specs)
  title : titleS kind a = true
  ens_ : ensR first P = ens
  row : findK specs ens = some rs
  ok : okP rs P = true
  whole : lacks ens P rs = false
  once_ : once rs = true
  noens : findK rs ensB = none
  few : rs.length ≤ 8
  short : ∀ y, y ∈ rs → y.1.size ≤ 16
theorem taken {kind a : ByteArray} {P : List S34} (h : (fullS kind a P).2.2.2 = 0) : ∃ first ens specs rs, Taken kind a P first ens specs rs ∧ fullS kind a P = (kind, a, outS ens P rs, 0) := by
  obtain ⟨first, specs, rs, h1, h2, h3, h4, h5, h6⟩ := fullS_all h
  have ht := tidy_row (tidy_shapes h1).1 h3
  exact ⟨first, _, specs, rs, ⟨h1, h2, rfl, h3, h4, h5, ht.1, ht.2.1, ht.2.2.1, ht.2.2.2⟩, h6⟩
section
variable {kind a : ByteArray} {P : List S34} {first ens : ByteArray} {specs : List (ByteArray × List (ByteArray × RuleD))} {rs : List (ByteArray × RuleD)}
theorem Taken.at_ens (T : Taken kind a P first ens specs rs) : (fullAt ens P rs ensB).getD ⟨#[]⟩ = ens := by
  rw [fullAt_eq T.ok]
  have h := T.ens_
  unfold ensR at h
  cases hg : getS P ensB with
  | none => rw [if_pos rfl]; rfl
  | some v => rw [hg] at h; exact h
/-- What a parameter comes to. -/
theorem Taken.at_rule (T : Taken kind a P first ens specs rs) {s : ByteArray} {q : RuleD} (hq : findK rs s = some q) : ∃ v, fullAt ens P rs s = some v ∧ q.may v = true ∧ (getS P s = some v ∨ (getS P s = none ∧ q.must = false ∧ v = q.dflt)) := by
  have hs : s ≠ ensB := fun e => by rw [e, T.noens] at hq; cases hq
  rw [fullAt_eq T.ok]
  cases hg : getS P s with
  | some v =>
    refine ⟨v, rfl, ?_, .inl rfl⟩
    rw [← known_at hs hq]
    exact (okP_iff.1 T.ok).1 _ (getS_mem hg)
  | none =>
    have hm := not_must T.whole hs hq hg
    refine ⟨q.dflt, by rw [if_neg hs, hq]; rfl, dflt_ok T.shape T.row hq hm, .inr ⟨rfl, hm, rfl⟩⟩
theorem Taken.out_ok (T : Taken kind a P first ens specs rs) : okP rs (outS ens P rs) = true := by
  rw [okP_iff, out_names]
  refine ⟨fun p hp => ?_, namesS_sorted T.noens T.once_⟩
  obtain ⟨h1, h2⟩ := out_mem hp
  obtain ⟨s, v⟩ := p
  simp only [] at h1 h2
  rcases name_cases h1 with rfl | ⟨q, hq⟩
  · exact known_ensB _ _
  · have hs : s ≠ ensB := fun e => by rw [e, T.noens] at hq; cases hq
    obtain ⟨v', h3, h4, _⟩ := T.at_rule hq
    rw [known_at hs hq, h2, h3]
    exact h4
theorem Taken.out_ens (T : Taken kind a P first ens specs rs) : ensR first (outS ens P rs) = ens := by
  unfold ensR
  rw [getS_out, if_pos (name_in (.inl rfl)), T.at_ens]
  rfl
end
def sizeB (rs : List (ByteArray × RuleD)) : Bool := rs.all fun x => decide (x.2.dflt.size ≤ 16)
theorem size_shapes {kind first : ByteArray} {specs : List (ByteArray × List (ByteArray × RuleD))} (h : shapesD kind = some (first, specs)) : specs.all (fun x => sizeB x.2) = true := by
  unfold shapesD at h
  repeat' split at h
  all_goals (first | (cases h; decide +kernel) | cases h)
theorem Taken.fits {kind a : ByteArray} {P : List S34} {first ens : ByteArray} {specs : List (ByteArray × List (ByteArray × RuleD))} {rs : List (ByteArray × RuleD)} (T : Taken kind a P first ens specs rs) (hfit : fitP P = true) : (outS ens P rs).length ≤ 9 ∧ fitP (outS ens P rs) = true := by
  constructor
  · have := T.few
    unfold outS namesS
    simp
    omega
  · refine List.all_eq_true.2 fun p hp => ?_
    obtain ⟨h1, h2⟩ := out_mem hp
    rw [Bool.and_eq_true, decide_eq_true_iff, decide_eq_true_iff]
    obtain ⟨s, v⟩ := p
    simp only [] at h1 h2 ⊢
    have hens : ens.size < 2147483648 := by
      rw [← T.ens_]
      unfold ensR
      cases hg : getS P ensB with
      | none => rw [Option.getD_none]; exact (tidy_shapes T.shape).2
      | some v => rw [Option.getD_some]; exact getS_fit hfit hg
    rcases name_cases h1 with rfl | ⟨q, hq⟩
    · rw [h2, T.at_ens]
      exact ⟨by decide, hens⟩
    · have hm := findK_mem hq
      obtain ⟨v', h3, _, h4⟩ := T.at_rule hq
      rw [h2, h3, Option.getD_some]
      have hsz := T.short _ hm
      simp only [] at hsz
      refine ⟨by omega, ?_⟩
      rcases h4 with h4 | ⟨_, _, rfl⟩
      · exact getS_fit hfit h4
      · have h5 := List.all_eq_true.1 (List.all_eq_true.1 (size_shapes T.shape) _ (findK_mem T.row)) _ hm
        have h6 := of_decide_eq_true h5
        simp only [] at h6
        omega
end Go.Proofs.YtkgafkoopefghaaDoor.PA
end
section
set_option linter.unusedVariables false
set_option linter.unusedSimpArgs false
namespace Go.Proofs.YtkgafkoopefghaaDoor.PA
open Go.RowKit Go.Maps Go.WideMaps Go.Proofs.YtkgafkoopefghaaDoor.Hk Go.Proofs.YtkgafkoopefghaaDoorW.PrintWords
theorem getS_erase {s : ByteArray} : ∀ {L : List S34} {j : Nat} (hj : j < L.length), L[j].f0 ≠ s → getS (L.eraseIdx j) s = getS L s
  | p :: L, 0, hj, hne => by
    rw [List.eraseIdx_cons_zero, getS_cons, if_neg]
    intro e
    rw [toList_eq, toList_eq] at e
    exact hne (byt_inj e)
  | p :: L, j + 1, hj, hne => by
    rw [List.eraseIdx_cons_succ, getS_cons, getS_cons, getS_erase (by simpa using hj) (by simpa using hne)]
theorem getS_gone {L : List S34} (hn : (L.map (·.f0)).Nodup) {j : Nat} (hj : j < L.length) : getS (L.eraseIdx j) L[j].f0 = none := by
  cases h : getS (L.eraseIdx j) L[j].f0 with
  | none => rfl
  | some v =>
    have hm := getS_mem h
    obtain ⟨i, hi, hne, e⟩ := List.mem_eraseIdx_iff_getElem.1 hm
    unfold List.Nodup at hn
    rw [List.pairwise_iff_getElem] at hn
    have e2 : L[i].f0 = L[j].f0 := by rw [e]
    rcases Nat.lt_or_ge i j with c | c
    · have := hn i j (by rw [List.length_map]; omega) (by rw [List.length_map]; exact hj) c
      rw [List.getElem_map, List.getElem_map] at this
      exact (this e2).elim
    · have := hn j i (by rw [List.length_map]; exact hj) (by rw [List.length_map]; omega) (by omega)
      rw [List.getElem_map, List.getElem_map] at this
      exact (this e2.symm).elim
theorem fit_erase {L : List S34} (h : fitP L = true) (j : Nat) : fitP (L.eraseIdx j) = true := List.all_eq_true.2 fun p hp => List.all_eq_true.1 h p (List.mem_of_mem_eraseIdx hp)
section
variable {kind a : ByteArray} {P : List S34} {first ens : ByteArray} {specs : List (ByteArray × List (ByteArray × RuleD))} {rs : List (ByteArray × RuleD)}
theorem Taken.less_errno (T : Taken kind a P first ens specs rs) (Q : List S34) : (fullS kind a Q).2.2.2 = 0 ∨ (fullS kind a Q).2.2.2 = 62 := by
  cases hf : findK specs (ensR first Q) with
  | none => exact .inr (by rw [fullS_none T.shape T.title rfl hf])
  | some rs' =>
    rw [fullS_iff T.shape T.title rfl hf]
    by_cases c : okP rs' Q = true
    · rw [if_pos c]
      by_cases c2 : lacks (ensR first Q) Q rs' = true
      · rw [if_pos c2]; exact .inr rfl
      · rw [if_neg c2]; exact .inl rfl
    · rw [if_neg c]; exact .inr rfl
/-- A parameter that is what it would be may be left out. -/
theorem Taken.less (T : Taken kind a P first ens specs rs) {j : Nat} (hj : j < (outS ens P rs).length) {first2 ens2 : ByteArray} {specs2 : List (ByteArray × List (ByteArray × RuleD))} {rs2 : List (ByteArray × RuleD)} (T2 : Taken kind a ((outS ens P rs).eraseIdx j) first2 ens2 specs2 rs2)
    (hv : getS (outS ens2 ((outS ens P rs).eraseIdx j) rs2) (outS ens P rs)[j].f0 = some (outS ens P rs)[j].f1) : outS ens2 ((outS ens P rs).eraseIdx j) rs2 = outS ens P rs := by
  have hsh := T.shape.symm.trans T2.shape
  cases hsh
  have hnd := okP_nodup T.out_ok
  have hens : ens2 = ens := by
    have h2 := T2.ens_
    unfold ensR at h2
    by_cases c : (outS ens P rs)[j].f0 = ensB
    · have hg := getS_gone hnd hj
      rw [c] at hg
      rw [hg, Option.getD_none] at h2
      rw [c, getS_out, if_pos (name_in (.inl rfl)), T2.at_ens] at hv
      have h3 := Option.some.inj hv
      have h4 := (out_mem (List.getElem_mem hj)).2
      rw [c, T.at_ens] at h4
      rw [h3, h4]
    · rw [getS_erase hj c] at h2
      have h5 := T.out_ens
      unfold ensR at h5
      rw [h5] at h2
      exact h2.symm
  subst hens
  have hrs := T.row.symm.trans T2.row
  cases hrs
  show (namesS rs).map _ = (namesS rs).map _
  refine List.map_congr_left fun n hn => ?_
  have hn2 : (⟨n.toArray⟩ : ByteArray).data.toList ∈ namesS rs := hn
  by_cases c : (outS ens2 P rs)[j].f0 = ⟨n.toArray⟩
  · have h4 := (out_mem (List.getElem_mem hj)).2
    rw [c] at h4 hv
    rw [getS_out, if_pos hn2, h4] at hv
    rw [Option.some.inj hv]
  · rw [fullAt_eq T2.ok, getS_erase hj c, getS_out, if_pos hn2]
    rfl
end
def toldNext (k : Nat) (j : Int) (a b : ByteArray) (L : List S34) (c d : ByteArray) (X : List S34) : Option Bool :=
  (resource_Full.f c d X).bind fun bt361 => (if bt361.2.2.2 = 0 then (if 0 ≤ j then (if j < (L.length : Int) then ((resource_Get.f k bt361.1 bt361.2.1 bt361.2.2.1 ((rd_T34 L j).f0)).bind fun bt369 => ((resource_Get.f k a b L ((rd_T34 L j).f0)).bind fun bt372 => (if bt369.2 = true then (majordomolaw06_ResourceTold.j3 k (bt369.1.toList != bt372.1.toList) a b L bt361.1 bt361.2.1 bt361.2.2.1) else (majordomolaw06_ResourceTold.j3 k true a b L bt361.1 bt361.2.1 bt361.2.2.1)))) else (none)) else (none)) else (some (bt361.2.2.2 == 62)))
def restAt (L : List S34) (j i : Nat) : List S34 := if i ≤ j then (L.drop i).eraseIdx (j - i) else L.drop i
theorem restAt_same {L : List S34} {j : Nat} (hj : j < L.length) : restAt L j j = restAt L j (j + 1) := by
  unfold restAt
  rw [if_pos (Nat.le_refl _), if_neg (by omega), Nat.sub_self, List.drop_eq_getElem_cons hj, List.eraseIdx_cons_zero]
theorem restAt_next {L : List S34} {j i : Nat} (hi : i < L.length) (hne : i ≠ j) : restAt L j i = L[i] :: restAt L j (i + 1) := by
  unfold restAt
  by_cases c : i ≤ j
  · rw [if_pos c, if_pos (by omega), List.drop_eq_getElem_cons hi, show j - i = (j - (i + 1)) + 1 by omega, List.eraseIdx_cons_succ]
  · rw [if_neg c, if_neg (by omega), List.drop_eq_getElem_cons hi]
theorem told_build (a b : ByteArray) (L : List S34) (j : Nat) (c d : ByteArray) (hL : L.length ≤ 100) (k : Nat) : ∀ (n i : Nat) (acc : List S34), i + n = L.length → acc.length ≤ 200 + i →
    majordomolaw06_ResourceTold.l0 (n + 1 + k) j i a b L c d acc = toldNext k j a b L c d (acc ++ restAt L j i)
  | 0, i, acc, h, ha => by
    have e : restAt L j i = [] := by
      unfold restAt
      have : L.drop i = [] := List.drop_eq_nil_of_le (by omega)
      rw [this]
      split <;> simp
    rw [show 0 + 1 + k = k + 1 by omega, majordomolaw06_ResourceTold.l0, if_neg (by omega), e, List.append_nil]
    rfl
  | n + 1, i, acc, h, ha => by
    have hi : i < L.length := by omega
    have e2 : wrap64 ((i : Int) + 1) = ((i + 1 : Nat) : Int) := by unfold wrap64; omega
    rw [show n + 1 + 1 + k = (n + 1 + k) + 1 by omega, majordomolaw06_ResourceTold.l0, if_pos (by omega), e2]
    by_cases hc : i = j
    · subst hc
      rw [if_pos rfl, told_build a b L i c d hL k n (i + 1) acc (by omega) (by omega), restAt_same hi]
    · rw [if_neg (by omega), if_pos (by omega), if_pos (by omega), rd31 hi, told_build a b L j c d hL k n (i + 1) _ (by omega) (by simp; omega), restAt_next hi hc, List.append_assoc]
      rfl
theorem told_same (a b : ByteArray) (L : List S34) (c d : ByteArray) (hL : L.length ≤ 100) : ∀ (n k i : Nat), i + n = L.length → n < k → majordomolaw06_ResourceTold.l1 k true i a b L c d L = some true
  | n, 0, i, h, hk => by omega
  | 0, k + 1, i, h, hk => by rw [majordomolaw06_ResourceTold.l1, if_neg (by omega)]
  | n + 1, k + 1, i, h, hk => by
    have e2 : wrap64 ((i : Int) + 1) = ((i + 1 : Nat) : Int) := by unfold wrap64; omega
    rw [majordomolaw06_ResourceTold.l1, if_pos (by omega), if_pos rfl, if_pos (by omega), if_pos (by omega), e2, beq_iff_eq.2 rfl, beq_iff_eq.2 rfl, Bool.true_and]
    exact told_same a b L c d hL n k (i + 1) (by omega) (by omega)
theorem told_index (x : Int) (hx : -9223372036854775808 ≤ x ∧ x ≤ 9223372036854775807) (n : Nat) (h0 : 0 < n) (hn : n ≤ 100) : ∃ j : Nat, j < n ∧ Int.tmod (if x < 0 then wrap64 (-(wrap64 (x + 1))) else x) (n : Int) = (j : Int) := by
  obtain ⟨y, hy0, hy⟩ : ∃ y : Int, 0 ≤ y ∧ (if x < 0 then wrap64 (-(wrap64 (x + 1))) else x) = y := by
    refine ⟨_, ?_, rfl⟩
    by_cases c : x < 0
    · rw [if_pos c]; unfold wrap64; omega
    · rw [if_neg c]; omega
  rw [hy]
  have h1 : Int.tmod y n = y % n := Int.tmod_eq_emod_of_nonneg hy0
  have h2 := Int.emod_nonneg y (show (n : Int) ≠ 0 by omega)
  have h3 := Int.emod_lt_of_pos y (show (0 : Int) < n by omega)
  exact ⟨(y % n).toNat, by omega, by rw [h1]; omega⟩
theorem law_told (a b : ByteArray) (l : List S34) (x : Int) (hx : -9223372036854775808 ≤ x ∧ x ≤ 9223372036854775807) (h : a.size < 2147483648 ∧ b.size < 2147483648 ∧ l.length < 2147483648 ∧ fitP l = true) : ∃ k, majordomolaw06_ResourceTold.f k a b l x = some true := by
  have hff := full_f a b l h
  by_cases c : (fullS a b l).2.2.2 = 0
  · obtain ⟨first, ens, specs, rs, T, e⟩ := taken c
    obtain ⟨h9, hfo⟩ := T.fits h.2.2.2
    rw [e] at hff
    obtain ⟨L, hL⟩ : ∃ L, outS ens l rs = L := ⟨_, rfl⟩
    have h1 : 0 < L.length := by rw [← hL]; unfold outS namesS; simp
    rw [hL] at hff h9 hfo
    obtain ⟨j, hj, ej⟩ := told_index x hx L.length h1 (by omega)
    refine ⟨(L.length + 1 + 30) + 2, ?_⟩
    unfold majordomolaw06_ResourceTold.f
    rw [shown_true, Option.bind_some, hff, Option.bind_some, if_pos rfl, if_pos rfl]
    have e1 : ((L.length : Int) == 0) = false := by rw [beq_eq_false_iff_ne]; omega
    simp only []
    rw [e1, majordomolaw06_ResourceTold.j0, if_neg (by decide)]
    have hb := told_build a b L j a b (by omega) 30 L.length 0 [] (by omega) (by simp)
    rw [show ((0 : Nat) : Int) = 0 from rfl, List.nil_append] at hb
    have e0 : restAt L j 0 = L.eraseIdx j := by unfold restAt; rw [if_pos (by omega), List.drop_zero, Nat.sub_zero]
    rw [e0] at hb
    have hj1 : ∀ y : Int, Int.tmod y (L.length : Int) = (j : Int) → majordomolaw06_ResourceTold.j1 (L.length + 1 + 30 + 1) y a b L = toldNext 30 j a b L a b (L.eraseIdx j) := fun y hy => by
      rw [majordomolaw06_ResourceTold.j1, if_neg (by omega), hy, hb]
    have hsel : (if x < 0 then majordomolaw06_ResourceTold.j1 (L.length + 1 + 30 + 1) (wrap64 (-(wrap64 (x + 1)))) a b L else majordomolaw06_ResourceTold.j1 (L.length + 1 + 30 + 1) x a b L) = toldNext 30 j a b L a b (L.eraseIdx j) := by
      by_cases cx : x < 0
      · rw [if_pos cx] at ej ⊢; exact hj1 _ ej
      · rw [if_neg cx] at ej ⊢; exact hj1 _ ej
    refine hsel.trans ?_
    have hlen : (L.eraseIdx j).length ≤ 9 := by have := List.length_eraseIdx_le L j; omega
    have hf2 := full_f a b (L.eraseIdx j) ⟨h.1, h.2.1, by omega, fit_erase hfo j⟩
    unfold toldNext
    rw [hf2, Option.bind_some]
    by_cases c2 : (fullS a b (L.eraseIdx j)).2.2.2 = 0
    · obtain ⟨first2, ens2, specs2, rs2, T2, e2⟩ := taken c2
      obtain ⟨h92, _⟩ := T2.fits (fit_erase hfo j)
      rw [e2, if_pos rfl, if_pos (by omega), if_pos (by omega), rd31 hj]
      simp only []
      rw [get_k a b _ _ (by omega) 30 (by omega), get_k a b _ L (by omega) 30 (by omega), Option.bind_some, Option.bind_some]
      have hself : getS L L[j].f0 = some L[j].f1 := by
        have hnd := okP_nodup T.out_ok
        rw [hL] at hnd
        exact getS_self hnd (List.getElem_mem hj)
      rw [hself]
      cases hg : getS (outS ens2 (L.eraseIdx j) rs2) L[j].f0 with
      | none =>
        have e4 : (toldR (none : Option ByteArray)).2 = false := rfl
        rw [e4, if_neg (by decide), majordomolaw06_ResourceTold.j3, if_pos rfl]
      | some v =>
        have e4 : toldR (some v) = (v, true) := rfl
        have e5 : toldR (some L[j].f1) = (L[j].f1, true) := rfl
        rw [e4, e5, if_pos rfl]
        simp only []
        by_cases cv : v = L[j].f1
        · have e6 : (v.toList != L[j].f1.toList) = false := by rw [cv]; simp
          rw [e6, majordomolaw06_ResourceTold.j3, if_neg (by decide)]
          have hless : outS ens2 (L.eraseIdx j) rs2 = L := by
            have := T.less (j := j) (by rw [hL]; exact hj) (first2 := first2) (ens2 := ens2) (specs2 := specs2) (rs2 := rs2) (by rw [hL]; exact T2) (by simp only [hL]; rw [hg, cv])
            rw [hL] at this
            exact this
          rw [hless]
          have e7 : ((L.length : Int) == (L.length : Int)) = true := by simp
          rw [e7]
          have := told_same a b L a b (by omega) L.length 29 0 (by omega) (by omega)
          rw [show ((0 : Nat) : Int) = 0 from rfl] at this
          exact this
        · have e6 : (v.toList != L[j].f1.toList) = true := by
            rw [bne_iff_ne]
            intro e
            rw [toList_eq, toList_eq] at e
            exact cv (byt_inj e)
          rw [e6, majordomolaw06_ResourceTold.j3, if_pos rfl]
    · rw [if_neg c2]
      rcases T.less_errno (L.eraseIdx j) with h3 | h3
      · exact (c2 h3).elim
      · rw [h3]; rfl
  · refine ⟨1, ?_⟩
    unfold majordomolaw06_ResourceTold.f
    rw [shown_true, Option.bind_some, hff, Option.bind_some, if_pos rfl, if_neg c, majordomolaw06_ResourceTold.j0, if_pos rfl]
end Go.Proofs.YtkgafkoopefghaaDoor.PA
end
