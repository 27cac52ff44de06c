/- The law ResourceEnsures (chapter 06): a resource that is absent, or a service, has no parameter but its ensure: true of every input whose reading is of bulk at most 1048576, and the input reads behind the call as it read before. Conditions: the statement's own bound, and its two tables of unicode/utf8 as the program's text lays them (tied by the card). -/
import Derived.Test.YtkgafkoopefghaaDoorRe27
import Derived.Test.YtkgafkoopefghaaDoorRe28
import Derived.Test.YtkgafkoopefghaaDoorRe30
section
set_option linter.unusedVariables false
set_option linter.unusedSimpArgs false
namespace Go.Proofs.YtkgafkoopefghaaDoor.PA
open Go.RowKit Go.Maps Go.WideMaps Go.Proofs.YtkgafkoopefghaaDoor.Hk Go.Proofs.YtkgafkoopefghaaDoorW.PrintWords
theorem get_k (a b n : ByteArray) (l : List S34) (hl : l.length ≤ 9223372036854775806) (k : Nat) (hk : l.length < k) : resource_Get.f k a b l n = some (toldR (getS l n)) := get_l0 n l hl k 0 (by omega) (by omega)
theorem out_mem {ens : ByteArray} {P : List S34} {rs : List (ByteArray × RuleD)} {p : S34} (h : p ∈ outS ens P rs) : p.f0.data.toList ∈ namesS rs ∧ p.f1 = (fullAt ens P rs p.f0).getD ⟨#[]⟩ := by
  unfold outS at h
  obtain ⟨n, hn, rfl⟩ := List.mem_map.1 h
  exact ⟨hn, rfl⟩
theorem name_cases {rs : List (ByteArray × RuleD)} {s : ByteArray} (h : s.data.toList ∈ namesS rs) : s = ensB ∨ ∃ q, findK rs s = some q := by
  rcases namesS_mem.1 h with h | ⟨y, hy, e⟩
  · exact .inl (byt_inj h)
  · refine .inr (Option.isSome_iff_exists.1 (findK_some_mem.2 ?_))
    exact List.mem_map.2 ⟨y, hy, byt_inj e⟩
theorem name_in {rs : List (ByteArray × RuleD)} {s : ByteArray} (h : s = ensB ∨ (findK rs s).isSome = true) : s.data.toList ∈ namesS rs := by
  rcases h with rfl | h
  · exact namesS_mem.2 (.inl rfl)
  · obtain ⟨y, hy, e⟩ := List.mem_map.1 (findK_some_mem.1 h)
    exact namesS_mem.2 (.inr ⟨y, hy, by rw [e]⟩)
theorem not_must {ens : ByteArray} {P : List S34} {rs : List (ByteArray × RuleD)} (hl : lacks ens P rs = false) {s : ByteArray} (hs : s ≠ ensB) {q : RuleD} (hq : findK rs s = some q) (hg : getS P s = none) : q.must = false := by
  cases hm : q.must with
  | false => rfl
  | true =>
    unfold lacks at hl
    rw [List.any_eq_false] at hl
    have := hl _ (findK_mem hq)
    rw [told_none s hs, hg, hm] at this
    exact (this rfl).elim
/-- What stands of a resource that was taken. -/
structure Taken (kind a : ByteArray) (P : List S34) (first ens : ByteArray) (specs : List (ByteArray × List (ByteArray × RuleD))) (rs : List (ByteArray × RuleD)) : Prop where
  shape : shapesD kind = some (first, specs)
  title : titleS kind a = true
  ens_ : ensR first P = ens
  row : findK specs ens = some rs
  ok : okP rs P = true
  whole : lacks ens P rs = false
  once_ : once rs = true
  noens : findK rs ensB = none
  few : rs.length ≤ 8
  short : ∀ y, y ∈ rs → y.1.size ≤ 16
theorem taken {kind a : ByteArray} {P : List S34} (h : (fullS kind a P).2.2.2 = 0) : ∃ first ens specs rs, Taken kind a P first ens specs rs ∧ fullS kind a P = (kind, a, outS ens P rs, 0) := by
  obtain ⟨first, specs, rs, h1, h2, h3, h4, h5, h6⟩ := fullS_all h
  have ht := tidy_row (tidy_shapes h1).1 h3
  exact ⟨first, _, specs, rs, ⟨h1, h2, rfl, h3, h4, h5, ht.1, ht.2.1, ht.2.2.1, ht.2.2.2⟩, h6⟩
section
variable {kind a : ByteArray} {P : List S34} {first ens : ByteArray} {specs : List (ByteArray × List (ByteArray × RuleD))} {rs : List (ByteArray × RuleD)}
theorem Taken.at_ens (T : Taken kind a P first ens specs rs) : (fullAt ens P rs ensB).getD ⟨#[]⟩ = ens := by
  rw [fullAt_eq T.ok]
  have h := T.ens_
  unfold ensR at h
  cases hg : getS P ensB with
  | none => rw [if_pos rfl]; rfl
  | some v => rw [hg] at h; exact h
/-- What a parameter comes to. -/
theorem Taken.at_rule (T : Taken kind a P first ens specs rs) {s : ByteArray} {q : RuleD} (hq : findK rs s = some q) : ∃ v, fullAt ens P rs s = some v ∧ q.may v = true ∧ (getS P s = some v ∨ (getS P s = none ∧ q.must = false ∧ v = q.dflt)) := by
  have hs : s ≠ ensB := fun e => by rw [e, T.noens] at hq; cases hq
  rw [fullAt_eq T.ok]
  cases hg : getS P s with
  | some v =>
    refine ⟨v, rfl, ?_, .inl rfl⟩
    rw [← known_at hs hq]
    exact (okP_iff.1 T.ok).1 _ (getS_mem hg)
  | none =>
    have hm := not_must T.whole hs hq hg
    refine ⟨q.dflt, by rw [if_neg hs, hq]; rfl, dflt_ok T.shape T.row hq hm, .inr ⟨rfl, hm, rfl⟩⟩
end
def sizeB (rs : List (ByteArray × RuleD)) : Bool := rs.all fun x => decide (x.2.dflt.size ≤ 16)
theorem size_shapes {kind first : ByteArray} {specs : List (ByteArray × List (ByteArray × RuleD))} (h : shapesD kind = some (first, specs)) : specs.all (fun x => sizeB x.2) = true := by
  unfold shapesD at h
  repeat' split at h
  all_goals (first | (cases h; decide +kernel) | cases h)
theorem Taken.fits {kind a : ByteArray} {P : List S34} {first ens : ByteArray} {specs : List (ByteArray × List (ByteArray × RuleD))} {rs : List (ByteArray × RuleD)} (T : Taken kind a P first ens specs rs) (hfit : fitP P = true) : (outS ens P rs).length ≤ 9 ∧ fitP (outS ens P rs) = true := by
  constructor
  · have := T.few
    unfold outS namesS
    simp
    omega
  · refine List.all_eq_true.2 fun p hp => ?_
    obtain ⟨h1, h2⟩ := out_mem hp
    rw [Bool.and_eq_true, decide_eq_true_iff, decide_eq_true_iff]
    obtain ⟨s, v⟩ := p
    simp only [] at h1 h2 ⊢
    have hens : ens.size < 2147483648 := by
      rw [← T.ens_]
      unfold ensR
      cases hg : getS P ensB with
      | none => rw [Option.getD_none]; exact (tidy_shapes T.shape).2
      | some v => rw [Option.getD_some]; exact getS_fit hfit hg
    rcases name_cases h1 with rfl | ⟨q, hq⟩
    · rw [h2, T.at_ens]
      exact ⟨by decide, hens⟩
    · have hm := findK_mem hq
      obtain ⟨v', h3, _, h4⟩ := T.at_rule hq
      rw [h2, h3, Option.getD_some]
      have hsz := T.short _ hm
      simp only [] at hsz
      refine ⟨by omega, ?_⟩
      rcases h4 with h4 | ⟨_, _, rfl⟩
      · exact getS_fit hfit h4
      · have h5 := List.all_eq_true.1 (List.all_eq_true.1 (size_shapes T.shape) _ (findK_mem T.row)) _ hm
        have h6 := of_decide_eq_true h5
        simp only [] at h6
        omega
end Go.Proofs.YtkgafkoopefghaaDoor.PA
end
section
set_option linter.unusedVariables false
set_option linter.unusedSimpArgs false
namespace Go.Proofs.YtkgafkoopefghaaDoor.PA
open Go.RowKit Go.Maps Go.WideMaps Go.Proofs.YtkgafkoopefghaaDoor.Hk Go.Proofs.YtkgafkoopefghaaDoorW.PrintWords
def ensP (v : ByteArray) : List S34 := [(⟨(⟨#[101, 110, 115, 117, 114, 101]⟩ : ByteArray), v⟩ : S34)]
theorem ensP_get (v : ByteArray) : getS (ensP v) ensB = some v := by
  unfold ensP
  rw [getS_cons]
  exact if_pos rfl
/-- What a type may be: what the law says of it. -/
def ensOk (v : ByteArray) (n : Nat) : Prop := (v = ⟨#[112, 114, 101, 115, 101, 110, 116]⟩ ∨ v = ⟨#[102, 105, 108, 101]⟩ ∨ v = ⟨#[100, 105, 114, 101, 99, 116, 111, 114, 121]⟩) ∨ (n = 1 ∧ (v = ⟨#[97, 98, 115, 101, 110, 116]⟩ ∨ v = ⟨#[114, 117, 110, 110, 105, 110, 103]⟩ ∨ v = ⟨#[115, 116, 111, 112, 112, 101, 100]⟩))
theorem ens_law {kind a v : ByteArray} {first : ByteArray} {specs : List (ByteArray × List (ByteArray × RuleD))} {rs : List (ByteArray × RuleD)} (T : Taken kind a (ensP v) first v specs rs) : ensOk v (outS v (ensP v) rs).length := by
  have hlen : (outS v (ensP v) rs).length = rs.length + 1 := by unfold outS namesS; simp
  rw [hlen]
  have hsh := T.shape
  have hrow := T.row
  have hl := T.whole
  unfold shapesD at hsh
  unfold ensOk
  by_cases k_file : kind = ⟨#[102, 105, 108, 101]⟩
  · rw [if_pos k_file] at hsh
    cases hsh
    unfold fileD at hrow
    simp only [findK] at hrow
    by_cases e_file : v = ⟨#[102, 105, 108, 101]⟩
    · rw [if_pos e_file] at hrow
      cases hrow
      subst e_file
      exact .inl (.inr (.inl rfl))
    rw [if_neg e_file] at hrow
    by_cases e_directory : v = ⟨#[100, 105, 114, 101, 99, 116, 111, 114, 121]⟩
    · rw [if_pos e_directory] at hrow
      cases hrow
      subst e_directory
      exact .inl (.inr (.inr rfl))
    rw [if_neg e_directory] at hrow
    by_cases e_link : v = ⟨#[108, 105, 110, 107]⟩
    · rw [if_pos e_link] at hrow
      cases hrow
      subst e_link
      have hm : lacks ⟨#[108, 105, 110, 107]⟩ (ensP ⟨#[108, 105, 110, 107]⟩) [(⟨#[116, 97, 114, 103, 101, 116]⟩, ⟨⟨#[]⟩, true, isPath⟩)] = true := by kernel_rfl
      rw [hm] at hl
      cases hl
    rw [if_neg e_link] at hrow
    by_cases e_absent : v = ⟨#[97, 98, 115, 101, 110, 116]⟩
    · rw [if_pos e_absent] at hrow
      cases hrow
      subst e_absent
      exact .inr ⟨rfl, .inl rfl⟩
    rw [if_neg e_absent] at hrow
    cases hrow
  rw [if_neg k_file] at hsh
  by_cases k_account : kind = ⟨#[97, 99, 99, 111, 117, 110, 116]⟩
  · rw [if_pos k_account] at hsh
    cases hsh
    unfold accountD at hrow
    simp only [findK] at hrow
    by_cases e_present : v = ⟨#[112, 114, 101, 115, 101, 110, 116]⟩
    · rw [if_pos e_present] at hrow
      cases hrow
      subst e_present
      exact .inl (.inl rfl)
    rw [if_neg e_present] at hrow
    by_cases e_absent : v = ⟨#[97, 98, 115, 101, 110, 116]⟩
    · rw [if_pos e_absent] at hrow
      cases hrow
      subst e_absent
      exact .inr ⟨rfl, .inl rfl⟩
    rw [if_neg e_absent] at hrow
    cases hrow
  rw [if_neg k_account] at hsh
  by_cases k_group : kind = ⟨#[103, 114, 111, 117, 112]⟩
  · rw [if_pos k_group] at hsh
    cases hsh
    unfold groupD at hrow
    simp only [findK] at hrow
    by_cases e_present : v = ⟨#[112, 114, 101, 115, 101, 110, 116]⟩
    · rw [if_pos e_present] at hrow
      cases hrow
      subst e_present
      exact .inl (.inl rfl)
    rw [if_neg e_present] at hrow
    by_cases e_absent : v = ⟨#[97, 98, 115, 101, 110, 116]⟩
    · rw [if_pos e_absent] at hrow
      cases hrow
      subst e_absent
      exact .inr ⟨rfl, .inl rfl⟩
    rw [if_neg e_absent] at hrow
    cases hrow
  rw [if_neg k_group] at hsh
  by_cases k_package : kind = ⟨#[112, 97, 99, 107, 97, 103, 101]⟩
  · rw [if_pos k_package] at hsh
    cases hsh
    unfold packageD at hrow
    simp only [findK] at hrow
    by_cases e_present : v = ⟨#[112, 114, 101, 115, 101, 110, 116]⟩
    · rw [if_pos e_present] at hrow
      cases hrow
      subst e_present
      exact .inl (.inl rfl)
    rw [if_neg e_present] at hrow
    by_cases e_absent : v = ⟨#[97, 98, 115, 101, 110, 116]⟩
    · rw [if_pos e_absent] at hrow
      cases hrow
      subst e_absent
      exact .inr ⟨rfl, .inl rfl⟩
    rw [if_neg e_absent] at hrow
    cases hrow
  rw [if_neg k_package] at hsh
  by_cases k_service : kind = ⟨#[115, 101, 114, 118, 105, 99, 101]⟩
  · rw [if_pos k_service] at hsh
    cases hsh
    unfold serviceD at hrow
    simp only [findK] at hrow
    by_cases e_running : v = ⟨#[114, 117, 110, 110, 105, 110, 103]⟩
    · rw [if_pos e_running] at hrow
      cases hrow
      subst e_running
      exact .inr ⟨rfl, .inr (.inl rfl)⟩
    rw [if_neg e_running] at hrow
    by_cases e_stopped : v = ⟨#[115, 116, 111, 112, 112, 101, 100]⟩
    · rw [if_pos e_stopped] at hrow
      cases hrow
      subst e_stopped
      exact .inr ⟨rfl, .inr (.inr rfl)⟩
    rw [if_neg e_stopped] at hrow
    cases hrow
  rw [if_neg k_service] at hsh
  cases hsh
theorem ens_f (k : Nat) (a0 a1 v : ByteArray) (q1 q2 : ByteArray) (q3 : List S34) (e : Int) (hF : resource_Full.f a0 a1 (ensP v) = some (q1, q2, q3, e)) (he : e ≠ 0) (hl : q3.length = 0) : majordomolaw06_ResourceEnsures.f k a0 a1 v = some true := by
  have hF' : resource_Full.f a0 a1 [(⟨(⟨#[101, 110, 115, 117, 114, 101]⟩ : ByteArray), v⟩ : S34)] = some (q1, q2, q3, e) := hF
  unfold majordomolaw06_ResourceEnsures.f
  rw [shown_true, Option.bind_some, hF', Option.bind_some, if_pos rfl, if_neg he, hl]
  rfl
theorem ens_f_present (k : Nat) (a0 a1 : ByteArray) (q1 q2 : ByteArray) (q3 : List S34) (hF : resource_Full.f a0 a1 (ensP ⟨#[112, 114, 101, 115, 101, 110, 116]⟩) = some (q1, q2, q3, 0)) (hG : resource_Get.f k q1 q2 q3 (⟨#[101, 110, 115, 117, 114, 101]⟩ : ByteArray) = some (⟨#[112, 114, 101, 115, 101, 110, 116]⟩, true)) : majordomolaw06_ResourceEnsures.f k a0 a1 ⟨#[112, 114, 101, 115, 101, 110, 116]⟩ = some true := by
  have hF' : resource_Full.f a0 a1 [(⟨(⟨#[101, 110, 115, 117, 114, 101]⟩ : ByteArray), (⟨#[112, 114, 101, 115, 101, 110, 116]⟩ : ByteArray)⟩ : S34)] = some (q1, q2, q3, 0) := hF
  have e0 : (⟨#[112, 114, 101, 115, 101, 110, 116]⟩ : ByteArray).toList = ([112, 114, 101, 115, 101, 110, 116] : List UInt8) := by rw [toList_eq]
  unfold majordomolaw06_ResourceEnsures.f
  rw [shown_true, Option.bind_some, hF', Option.bind_some, if_pos rfl]
  simp only [e0, hG, Option.bind_some, if_true]
  first | rfl | decide +kernel
theorem ens_f_absent (k : Nat) (a0 a1 : ByteArray) (q1 q2 : ByteArray) (q3 : List S34) (hF : resource_Full.f a0 a1 (ensP ⟨#[97, 98, 115, 101, 110, 116]⟩) = some (q1, q2, q3, 0)) (hG : resource_Get.f k q1 q2 q3 (⟨#[101, 110, 115, 117, 114, 101]⟩ : ByteArray) = some (⟨#[97, 98, 115, 101, 110, 116]⟩, true)) (hl : q3.length = 1) : majordomolaw06_ResourceEnsures.f k a0 a1 ⟨#[97, 98, 115, 101, 110, 116]⟩ = some true := by
  have hF' : resource_Full.f a0 a1 [(⟨(⟨#[101, 110, 115, 117, 114, 101]⟩ : ByteArray), (⟨#[97, 98, 115, 101, 110, 116]⟩ : ByteArray)⟩ : S34)] = some (q1, q2, q3, 0) := hF
  have e0 : (⟨#[97, 98, 115, 101, 110, 116]⟩ : ByteArray).toList = ([97, 98, 115, 101, 110, 116] : List UInt8) := by rw [toList_eq]
  unfold majordomolaw06_ResourceEnsures.f
  rw [shown_true, Option.bind_some, hF', Option.bind_some, if_pos rfl]
  simp only [e0, hG, Option.bind_some, if_true, hl]
  first | rfl | decide +kernel
theorem ens_f_file (k : Nat) (a0 a1 : ByteArray) (q1 q2 : ByteArray) (q3 : List S34) (hF : resource_Full.f a0 a1 (ensP ⟨#[102, 105, 108, 101]⟩) = some (q1, q2, q3, 0)) (hG : resource_Get.f k q1 q2 q3 (⟨#[101, 110, 115, 117, 114, 101]⟩ : ByteArray) = some (⟨#[102, 105, 108, 101]⟩, true)) : majordomolaw06_ResourceEnsures.f k a0 a1 ⟨#[102, 105, 108, 101]⟩ = some true := by
  have hF' : resource_Full.f a0 a1 [(⟨(⟨#[101, 110, 115, 117, 114, 101]⟩ : ByteArray), (⟨#[102, 105, 108, 101]⟩ : ByteArray)⟩ : S34)] = some (q1, q2, q3, 0) := hF
  have e0 : (⟨#[102, 105, 108, 101]⟩ : ByteArray).toList = ([102, 105, 108, 101] : List UInt8) := by rw [toList_eq]
  unfold majordomolaw06_ResourceEnsures.f
  rw [shown_true, Option.bind_some, hF', Option.bind_some, if_pos rfl]
  simp only [e0, hG, Option.bind_some, if_true]
  first | rfl | decide +kernel
theorem ens_f_directory (k : Nat) (a0 a1 : ByteArray) (q1 q2 : ByteArray) (q3 : List S34) (hF : resource_Full.f a0 a1 (ensP ⟨#[100, 105, 114, 101, 99, 116, 111, 114, 121]⟩) = some (q1, q2, q3, 0)) (hG : resource_Get.f k q1 q2 q3 (⟨#[101, 110, 115, 117, 114, 101]⟩ : ByteArray) = some (⟨#[100, 105, 114, 101, 99, 116, 111, 114, 121]⟩, true)) : majordomolaw06_ResourceEnsures.f k a0 a1 ⟨#[100, 105, 114, 101, 99, 116, 111, 114, 121]⟩ = some true := by
  have hF' : resource_Full.f a0 a1 [(⟨(⟨#[101, 110, 115, 117, 114, 101]⟩ : ByteArray), (⟨#[100, 105, 114, 101, 99, 116, 111, 114, 121]⟩ : ByteArray)⟩ : S34)] = some (q1, q2, q3, 0) := hF
  have e0 : (⟨#[100, 105, 114, 101, 99, 116, 111, 114, 121]⟩ : ByteArray).toList = ([100, 105, 114, 101, 99, 116, 111, 114, 121] : List UInt8) := by rw [toList_eq]
  unfold majordomolaw06_ResourceEnsures.f
  rw [shown_true, Option.bind_some, hF', Option.bind_some, if_pos rfl]
  simp only [e0, hG, Option.bind_some, if_true]
  first | rfl | decide +kernel
theorem ens_f_running (k : Nat) (a0 a1 : ByteArray) (q1 q2 : ByteArray) (q3 : List S34) (hF : resource_Full.f a0 a1 (ensP ⟨#[114, 117, 110, 110, 105, 110, 103]⟩) = some (q1, q2, q3, 0)) (hG : resource_Get.f k q1 q2 q3 (⟨#[101, 110, 115, 117, 114, 101]⟩ : ByteArray) = some (⟨#[114, 117, 110, 110, 105, 110, 103]⟩, true)) (hl : q3.length = 1) : majordomolaw06_ResourceEnsures.f k a0 a1 ⟨#[114, 117, 110, 110, 105, 110, 103]⟩ = some true := by
  have hF' : resource_Full.f a0 a1 [(⟨(⟨#[101, 110, 115, 117, 114, 101]⟩ : ByteArray), (⟨#[114, 117, 110, 110, 105, 110, 103]⟩ : ByteArray)⟩ : S34)] = some (q1, q2, q3, 0) := hF
  have e0 : (⟨#[114, 117, 110, 110, 105, 110, 103]⟩ : ByteArray).toList = ([114, 117, 110, 110, 105, 110, 103] : List UInt8) := by rw [toList_eq]
  unfold majordomolaw06_ResourceEnsures.f
  rw [shown_true, Option.bind_some, hF', Option.bind_some, if_pos rfl]
  simp only [e0, hG, Option.bind_some, if_true, hl]
  first | rfl | decide +kernel
theorem ens_f_stopped (k : Nat) (a0 a1 : ByteArray) (q1 q2 : ByteArray) (q3 : List S34) (hF : resource_Full.f a0 a1 (ensP ⟨#[115, 116, 111, 112, 112, 101, 100]⟩) = some (q1, q2, q3, 0)) (hG : resource_Get.f k q1 q2 q3 (⟨#[101, 110, 115, 117, 114, 101]⟩ : ByteArray) = some (⟨#[115, 116, 111, 112, 112, 101, 100]⟩, true)) (hl : q3.length = 1) : majordomolaw06_ResourceEnsures.f k a0 a1 ⟨#[115, 116, 111, 112, 112, 101, 100]⟩ = some true := by
  have hF' : resource_Full.f a0 a1 [(⟨(⟨#[101, 110, 115, 117, 114, 101]⟩ : ByteArray), (⟨#[115, 116, 111, 112, 112, 101, 100]⟩ : ByteArray)⟩ : S34)] = some (q1, q2, q3, 0) := hF
  have e0 : (⟨#[115, 116, 111, 112, 112, 101, 100]⟩ : ByteArray).toList = ([115, 116, 111, 112, 112, 101, 100] : List UInt8) := by rw [toList_eq]
  unfold majordomolaw06_ResourceEnsures.f
  rw [shown_true, Option.bind_some, hF', Option.bind_some, if_pos rfl]
  simp only [e0, hG, Option.bind_some, if_true, hl]
  first | rfl | decide +kernel
theorem law_ensures (a0 a1 v : ByteArray) (w : World) (hU : UtfOk w) (h : a0.size < 2147483648 ∧ a1.size < 2147483648 ∧ v.size < 2147483648) :
    Calls Tryd.prog 4 #[.string a0, .string a1, .string v] w fun e w' => e = .returned (.bool true) ∧ Below w.heap.size w w' := by
  have hfit : fitP (ensP v) = true := List.all_eq_true.2 fun p hp => by
    unfold ensP at hp
    rw [List.mem_singleton.1 hp, Bool.and_eq_true, decide_eq_true_iff, decide_eq_true_iff]
    exact ⟨(by decide : (⟨#[101, 110, 115, 117, 114, 101]⟩ : ByteArray).size < 2147483648), h.2.2⟩
  have hff := full_f a0 a1 (ensP v) ⟨h.1, h.2.1, by unfold ensP; simp, hfit⟩
  by_cases c : (fullS a0 a1 (ensP v)).2.2.2 = 0
  · obtain ⟨first, ens, specs, rs, T, e⟩ := taken c
    have hens : ens = v := by
      have := T.ens_
      unfold ensR at this
      rw [ensP_get] at this
      exact this.symm
    subst hens
    rw [e] at hff
    have hE : ∀ q, resource_Full.f a0 a1 [(⟨(⟨#[101, 110, 115, 117, 114, 101]⟩ : ByteArray), ens⟩ : S34)] = some q → q.2.2.2 = 0 := fun q hq => by
      have := Option.some.inj (hq.symm.trans hff)
      rw [this]
    have h9 := (T.fits hfit).1
    have hG : resource_Get.f 30 a0 a1 (outS ens (ensP ens) rs) (⟨#[101, 110, 115, 117, 114, 101]⟩ : ByteArray) = some (ens, true) := by
      rw [get_k _ _ _ _ (by omega) 30 (by omega)]
      have := getS_out ens (ensP ens) rs ensB
      rw [if_pos (name_in (.inl rfl)), T.at_ens] at this
      exact congrArg some (congrArg toldR this)
    rcases ens_law T with (rfl | rfl | rfl) | ⟨hn, rfl | rfl | rfl⟩
    · exact majordomolaw06_ResourceEnsures.calls_present 30 a0 a1 _ true w (ens_f_present 30 a0 a1 _ _ _ hff hG) hU hE rfl rfl
    · exact majordomolaw06_ResourceEnsures.calls_file 30 a0 a1 _ true w (ens_f_file 30 a0 a1 _ _ _ hff hG) hU hE rfl rfl
    · exact majordomolaw06_ResourceEnsures.calls_directory 30 a0 a1 _ true w (ens_f_directory 30 a0 a1 _ _ _ hff hG) hU hE rfl rfl
    · exact majordomolaw06_ResourceEnsures.calls_absent 30 a0 a1 _ true w (ens_f_absent 30 a0 a1 _ _ _ hff hG hn) hU hE rfl rfl
    · exact majordomolaw06_ResourceEnsures.calls_running 30 a0 a1 _ true w (ens_f_running 30 a0 a1 _ _ _ hff hG hn) hU hE rfl rfl
    · exact majordomolaw06_ResourceEnsures.calls_stopped 30 a0 a1 _ true w (ens_f_stopped 30 a0 a1 _ _ _ hff hG hn) hU hE rfl rfl
  · have hb := fullS_bare c
    obtain ⟨fs, hfs⟩ : ∃ fs, fullS a0 a1 (ensP v) = fs := ⟨_, rfl⟩
    rw [hfs] at hb c hff
    obtain ⟨r1, r2, r3, r4⟩ := fs
    simp only [] at hb c
    refine majordomolaw06_ResourceEnsures.calls_no 30 a0 a1 v true w (ens_f 30 a0 a1 v _ _ _ _ hff c (by rw [hb]; rfl)) hU (fun q hq => ?_) rfl
    have := Option.some.inj (hq.symm.trans hff)
    rw [this]
    exact c
end Go.Proofs.YtkgafkoopefghaaDoor.PA
end
