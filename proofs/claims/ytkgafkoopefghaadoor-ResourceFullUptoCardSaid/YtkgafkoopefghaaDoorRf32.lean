/- The law ResourceFull (chapter 06): what is full may be, is full of itself, and keeps what was told: true of every input whose reading is of bulk at most 1048576, and the input reads behind the call as it read before. Conditions: the statement's own bound, and its two tables of unicode/utf8 as the program's text lays them (tied by the card). -/
import Derived.Test.YtkgafkoopefghaaDoorRf30
import Derived.Test.YtkgafkoopefghaaDoorRf29
import Derived.Test.YtkgafkoopefghaaDoorRf31
section
set_option linter.unusedVariables false
set_option linter.unusedSimpArgs false
namespace Go.Proofs.YtkgafkoopefghaaDoor.PA
open Go.RowKit Go.Maps Go.WideMaps Go.Proofs.YtkgafkoopefghaaDoor.Hk Go.Proofs.YtkgafkoopefghaaDoorW.PrintWords
theorem get_k (a b n : ByteArray) (l : List S34) (hl : l.length ≤ 9223372036854775806) (k : Nat) (hk : l.length < k) : resource_Get.f k a b l n = some (toldR (getS l n)) := get_l0 n l hl k 0 (by omega) (by omega)
theorem out_names (ens : ByteArray) (P : List S34) (rs : List (ByteArray × RuleD)) : (outS ens P rs).map (·.f0.data.toList) = namesS rs := by
  unfold outS
  rw [List.map_map]
  exact List.map_id _
theorem out_mem {ens : ByteArray} {P : List S34} {rs : List (ByteArray × RuleD)} {p : S34} (h : p ∈ outS ens P rs) : p.f0.data.toList ∈ namesS rs ∧ p.f1 = (fullAt ens P rs p.f0).getD ⟨#[]⟩ := by
  unfold outS at h
  obtain ⟨n, hn, rfl⟩ := List.mem_map.1 h
  exact ⟨hn, rfl⟩
theorem name_cases {rs : List (ByteArray × RuleD)} {s : ByteArray} (h : s.data.toList ∈ namesS rs) : s = ensB ∨ ∃ q, findK rs s = some q := by
  rcases namesS_mem.1 h with h | ⟨y, hy, e⟩
  · exact .inl (byt_inj h)
  · refine .inr (Option.isSome_iff_exists.1 (findK_some_mem.2 ?_))
    exact List.mem_map.2 ⟨y, hy, byt_inj e⟩
theorem name_in {rs : List (ByteArray × RuleD)} {s : ByteArray} (h : s = ensB ∨ (findK rs s).isSome = true) : s.data.toList ∈ namesS rs := by
  rcases h with rfl | h
  · exact namesS_mem.2 (.inl rfl)
  · obtain ⟨y, hy, e⟩ := List.mem_map.1 (findK_some_mem.1 h)
    exact namesS_mem.2 (.inr ⟨y, hy, by rw [e]⟩)
theorem not_must {ens : ByteArray} {P : List S34} {rs : List (ByteArray × RuleD)} (hl : lacks ens P rs = false) {s : ByteArray} (hs : s ≠ ensB) {q : RuleD} (hq : findK rs s = some q) (hg : getS P s = none) : q.must = false := by
  cases hm : q.must with
  | false => rfl
  | true =>
    unfold lacks at hl
    rw [List.any_eq_false] at hl
    have := hl _ (findK_mem hq)
    rw [told_none s hs, hg, hm] at this
    exact (this rfl).elim
theorem getS_self {P : List S34} (hn : (P.map (·.f0)).Nodup) {p : S34} (hp : p ∈ P) : getS P p.f0 = some p.f1 := by
  induction P with
  | nil => cases hp
  | cons x P ih =>
    rw [List.map_cons, List.nodup_cons] at hn
    rw [getS_cons]
    rcases List.mem_cons.1 hp with rfl | hp
    · rw [if_pos rfl]
    · rw [if_neg, ih hn.2 hp]
      intro e
      rw [toList_eq, toList_eq] at e
      exact hn.1 (by rw [byt_inj e]; exact List.mem_map.2 ⟨p, hp, rfl⟩)
/-- What stands of a resource that was taken. -/
structure Taken (kind a : ByteArray) (P : List S34) (first ens : ByteArray) (specs : List (ByteArray × List (ByteArray × RuleD))) (rs : List (ByteArray × RuleD)) : Prop where
  shape : shapesD kind = some (first, specs)
  title : titleS kind a = true
  ens_ : ensR first P = ens
  row : findK specs ens = some rs
  ok : okP rs P = true
  whole : lacks ens P rs = false
  once_ : once rs = true
  noens : findK rs ensB = none
  few : rs.length ≤ 8
  short : ∀ y, y ∈ rs → y.1.size ≤ 16
theorem taken {kind a : ByteArray} {P : List S34} (h : (fullS kind a P).2.2.2 = 0) : ∃ first ens specs rs, Taken kind a P first ens specs rs ∧ fullS kind a P = (kind, a, outS ens P rs, 0) := by
  obtain ⟨first, specs, rs, h1, h2, h3, h4, h5, h6⟩ := fullS_all h
  have ht := tidy_row (tidy_shapes h1).1 h3
  exact ⟨first, _, specs, rs, ⟨h1, h2, rfl, h3, h4, h5, ht.1, ht.2.1, ht.2.2.1, ht.2.2.2⟩, h6⟩
section
variable {kind a : ByteArray} {P : List S34} {first ens : ByteArray} {specs : List (ByteArray × List (ByteArray × RuleD))} {rs : List (ByteArray × RuleD)}
theorem Taken.at_ens (T : Taken kind a P first ens specs rs) : (fullAt ens P rs ensB).getD ⟨#[]⟩ = ens := by
  rw [fullAt_eq T.ok]
  have h := T.ens_
  unfold ensR at h
  cases hg : getS P ensB with
  | none => rw [if_pos rfl]; rfl
  | some v => rw [hg] at h; exact h
/-- What a parameter comes to. -/
theorem Taken.at_rule (T : Taken kind a P first ens specs rs) {s : ByteArray} {q : RuleD} (hq : findK rs s = some q) : ∃ v, fullAt ens P rs s = some v ∧ q.may v = true ∧ (getS P s = some v ∨ (getS P s = none ∧ q.must = false ∧ v = q.dflt)) := by
  have hs : s ≠ ensB := fun e => by rw [e, T.noens] at hq; cases hq
  rw [fullAt_eq T.ok]
  cases hg : getS P s with
  | some v =>
    refine ⟨v, rfl, ?_, .inl rfl⟩
    rw [← known_at hs hq]
    exact (okP_iff.1 T.ok).1 _ (getS_mem hg)
  | none =>
    have hm := not_must T.whole hs hq hg
    refine ⟨q.dflt, by rw [if_neg hs, hq]; rfl, dflt_ok T.shape T.row hq hm, .inr ⟨rfl, hm, rfl⟩⟩
theorem Taken.out_ok (T : Taken kind a P first ens specs rs) : okP rs (outS ens P rs) = true := by
  rw [okP_iff, out_names]
  refine ⟨fun p hp => ?_, namesS_sorted T.noens T.once_⟩
  obtain ⟨h1, h2⟩ := out_mem hp
  obtain ⟨s, v⟩ := p
  simp only [] at h1 h2
  rcases name_cases h1 with rfl | ⟨q, hq⟩
  · exact known_ensB _ _
  · have hs : s ≠ ensB := fun e => by rw [e, T.noens] at hq; cases hq
    obtain ⟨v', h3, h4, _⟩ := T.at_rule hq
    rw [known_at hs hq, h2, h3]
    exact h4
theorem Taken.out_ens (T : Taken kind a P first ens specs rs) : ensR first (outS ens P rs) = ens := by
  unfold ensR
  rw [getS_out, if_pos (name_in (.inl rfl)), T.at_ens]
  rfl
theorem Taken.out_whole (T : Taken kind a P first ens specs rs) : lacks ens (outS ens P rs) rs = false := by
  unfold lacks
  rw [List.any_eq_false]
  intro y hy
  have hin : y.1.data.toList ∈ namesS rs := namesS_mem.2 (.inr ⟨y, hy, rfl⟩)
  have hs : y.1 ≠ ensB := fun e => by
    have := findK_some_mem.2 (List.mem_map.2 ⟨y, hy, e⟩ : ensB ∈ rs.map (·.1))
    rw [T.noens] at this
    cases this
  rw [told_none _ hs, getS_out, if_pos hin]
  simp
theorem Taken.out_out (T : Taken kind a P first ens specs rs) : outS ens (outS ens P rs) rs = outS ens P rs := by
  have h1 : ∀ n, n ∈ namesS rs → (fullAt ens (outS ens P rs) rs ⟨n.toArray⟩).getD ⟨#[]⟩ = (fullAt ens P rs ⟨n.toArray⟩).getD ⟨#[]⟩ := by
    intro n hn
    have hn2 : (⟨n.toArray⟩ : ByteArray).data.toList ∈ namesS rs := hn
    rw [fullAt_eq T.out_ok, getS_out, if_pos hn2]
    rfl
  show (namesS rs).map _ = (namesS rs).map _
  exact List.map_congr_left fun n hn => by rw [h1 n hn]
/-- What is full is full of itself. -/
theorem Taken.again (T : Taken kind a P first ens specs rs) : fullS kind a (outS ens P rs) = (kind, a, outS ens P rs, 0) := by
  rw [fullS_iff T.shape T.title T.out_ens T.row, if_pos T.out_ok, if_neg (by rw [T.out_whole]; decide), T.out_out]
/-- What was told is kept. -/
theorem Taken.keeps (T : Taken kind a P first ens specs rs) {p : S34} (hp : p ∈ P) : getS (outS ens P rs) p.f0 = some p.f1 := by
  have hg := getS_self (okP_nodup T.ok) hp
  have hin : p.f0.data.toList ∈ namesS rs := by
    refine name_in ?_
    have h1 := (okP_iff.1 T.ok).1 p hp
    by_cases c : p.f0 = ensB
    · exact .inl c
    · refine .inr ?_
      cases hf : findK rs p.f0 with
      | some q => rfl
      | none =>
        unfold knownS at h1
        have e : (p.f0.toList == ([101, 110, 115, 117, 114, 101] : List UInt8)) = false := by
          rw [beq_eq_false_iff_ne]
          exact fun h => c ((byt_iff (t := ensB)).1 h)
        rw [e, hf] at h1
        cases h1
  rw [getS_out, if_pos hin, fullAt_eq T.ok, hg]
  rfl
end
def sizeB (rs : List (ByteArray × RuleD)) : Bool := rs.all fun x => decide (x.2.dflt.size ≤ 16)
theorem size_shapes {kind first : ByteArray} {specs : List (ByteArray × List (ByteArray × RuleD))} (h : shapesD kind = some (first, specs)) : specs.all (fun x => sizeB x.2) = true := by
  unfold shapesD at h
  repeat' split at h
  all_goals (first | (cases h; decide +kernel) | cases h)
theorem Taken.fits {kind a : ByteArray} {P : List S34} {first ens : ByteArray} {specs : List (ByteArray × List (ByteArray × RuleD))} {rs : List (ByteArray × RuleD)} (T : Taken kind a P first ens specs rs) (hfit : fitP P = true) : (outS ens P rs).length ≤ 9 ∧ fitP (outS ens P rs) = true := by
  constructor
  · have := T.few
    unfold outS namesS
    simp
    omega
  · refine List.all_eq_true.2 fun p hp => ?_
    obtain ⟨h1, h2⟩ := out_mem hp
    rw [Bool.and_eq_true, decide_eq_true_iff, decide_eq_true_iff]
    obtain ⟨s, v⟩ := p
    simp only [] at h1 h2 ⊢
    have hens : ens.size < 2147483648 := by
      rw [← T.ens_]
      unfold ensR
      cases hg : getS P ensB with
      | none => rw [Option.getD_none]; exact (tidy_shapes T.shape).2
      | some v => rw [Option.getD_some]; exact getS_fit hfit hg
    rcases name_cases h1 with rfl | ⟨q, hq⟩
    · rw [h2, T.at_ens]
      exact ⟨by decide, hens⟩
    · have hm := findK_mem hq
      obtain ⟨v', h3, _, h4⟩ := T.at_rule hq
      rw [h2, h3, Option.getD_some]
      have hsz := T.short _ hm
      simp only [] at hsz
      refine ⟨by omega, ?_⟩
      rcases h4 with h4 | ⟨_, _, rfl⟩
      · exact getS_fit hfit h4
      · have h5 := List.all_eq_true.1 (List.all_eq_true.1 (size_shapes T.shape) _ (findK_mem T.row)) _ hm
        have h6 := of_decide_eq_true h5
        simp only [] at h6
        omega
end Go.Proofs.YtkgafkoopefghaaDoor.PA
end
section
set_option linter.unusedVariables false
set_option linter.unusedSimpArgs false
namespace Go.Proofs.YtkgafkoopefghaaDoor.PA
open Go.RowKit Go.Maps Go.WideMaps Go.Proofs.YtkgafkoopefghaaDoor.Hk Go.Proofs.YtkgafkoopefghaaDoorW.PrintWords
theorem full_rise (a b : ByteArray) (l : List S34) (hl : l.length ≤ 100) (hs : (l.map (·.f0.data.toList)).Pairwise (· < ·)) : ∀ (d k i : Nat), 1 ≤ i → l.length ≤ i + d → d < k → majordomolaw06_ResourceFull.l1 k i a b l = some true
  | d, 0, i, h0, h, hk => by omega
  | 0, k + 1, i, h0, h, hk => by rw [majordomolaw06_ResourceFull.l1, if_neg (by omega)]
  | d + 1, k + 1, i, h0, h, hk => by
    rw [majordomolaw06_ResourceFull.l1]
    by_cases c : i < l.length
    · have e1 : wrap64 ((i : Int) - 1) = ((i - 1 : Nat) : Int) := by unfold wrap64; omega
      have e2 : wrap64 ((i : Int) + 1) = ((i + 1 : Nat) : Int) := by unfold wrap64; omega
      rw [if_pos (by omega), if_pos (by omega), e1, if_pos (by omega), if_pos (by omega), e2, rd31 c, rd31 (show i - 1 < l.length by omega), if_pos, full_rise a b l hl hs d k (i + 1) (by omega) (by omega) (by omega)]
      rw [List.pairwise_iff_getElem] at hs
      have h3 := hs (i - 1) i (by rw [List.length_map]; omega) (by rw [List.length_map]; exact c) (by omega)
      rw [List.getElem_map, List.getElem_map] at h3
      rw [bytesLess_eq, toList_eq, toList_eq]
      exact decide_eq_true h3
    · rw [if_neg (by omega)]
theorem full_keeps (a b c d : ByteArray) (P out : List S34) (hP : P.length ≤ 4294967296) (ho : out.length ≤ 100) (hk : ∀ p, p ∈ P → getS out p.f0 = some p.f1) (k : Nat) (hk2 : out.length < k) : ∀ (n i : Nat), i + n = P.length → majordomolaw06_ResourceFull.l0 (n + 1 + k) i a b P c d out = majordomolaw06_ResourceFull.l1 (k) 1 c d out
  | 0, i, h => by rw [show 0 + 1 + k = k + 1 by omega, majordomolaw06_ResourceFull.l0, if_neg (by omega)]
  | n + 1, i, h => by
    have hi : i < P.length := by omega
    have e2 : wrap64 ((i : Int) + 1) = ((i + 1 : Nat) : Int) := by unfold wrap64; omega
    rw [show n + 1 + 1 + k = (n + 1 + k) + 1 by omega, majordomolaw06_ResourceFull.l0, if_pos (by omega), if_pos (by omega), rd31 hi, get_k c d _ out (by omega) _ (by omega), hk _ (List.getElem_mem hi), Option.bind_some, e2]
    have e3 : toldR (some P[i].f1) = (P[i].f1, true) := rfl
    rw [e3, if_pos rfl, if_pos rfl]
    exact full_keeps a b c d P out hP ho hk k hk2 n (i + 1) (by omega)
theorem law_full (a b : ByteArray) (l : List S34) (h : a.size < 2147483648 ∧ b.size < 2147483648 ∧ l.length < 2147483648 ∧ fitP l = true) : ∃ k, majordomolaw06_ResourceFull.f k a b l = some true := by
  have hff := full_f a b l h
  by_cases c : (fullS a b l).2.2.2 = 0
  · obtain ⟨first, ens, specs, rs, T, e⟩ := taken c
    obtain ⟨h9, hfo⟩ := T.fits h.2.2.2
    have hf2 := full_f a b (outS ens l rs) ⟨h.1, h.2.1, by omega, hfo⟩
    rw [T.again] at hf2
    rw [e] at hff
    refine ⟨(l.length + 1 + 20) + 2, ?_⟩
    unfold majordomolaw06_ResourceFull.f
    rw [shown_true, Option.bind_some, hff, Option.bind_some, if_pos rfl]
    simp only []
    have e1 : ((0 : Int) != 0) = false := by decide
    rw [e1, majordomolaw06_ResourceFull.j0, if_neg (by decide), hf2, Option.bind_some]
    simp only []
    rw [refSame_f a b _ a b _ (by omega) _ (by omega), Option.bind_some, decide_eq_true ⟨rfl, rfl, rfl⟩, if_pos rfl, if_pos True.intro, if_pos True.intro]
    have e2 : (b.toList != b.toList) = false := by simp
    rw [e2, majordomolaw06_ResourceFull.j1, if_neg (by decide)]
    have hk := full_keeps a b a b l (outS ens l rs) (by omega) (by omega) (fun p hp => T.keeps hp) 20 (by omega) l.length 0 (by omega)
    rw [show ((0 : Nat) : Int) = 0 from rfl] at hk
    rw [hk]
    exact full_rise a b _ (by omega) (by rw [out_names]; exact namesS_sorted T.noens T.once_) 10 20 1 (by omega) (by omega) (by omega)
  · refine ⟨1, ?_⟩
    unfold majordomolaw06_ResourceFull.f
    rw [shown_true, Option.bind_some, hff, Option.bind_some, if_pos rfl]
    have e1 : ((fullS a b l).2.2.2 != 0) = true := by rw [bne_iff_ne]; exact c
    rw [e1, majordomolaw06_ResourceFull.j0, if_pos rfl, if_pos rfl]
    unfold resource_Check.f
    rw [hff, Option.bind_some, Option.bind_some]
    simp
end Go.Proofs.YtkgafkoopefghaaDoor.PA
end
