/- A part of this law; its conditions stand in the last text. -/
import Derived.Test.YtkgafkoopefghaaGreatDoorCc29
import Derived.Test.YtkgafkoopefghaaGreatDoorCc5
section
set_option linter.unusedVariables false
set_option linter.unusedSimpArgs false
namespace Go.Proofs.YtkgafkoopefghaaGreatDoor.PA
open Go.RowKit Go.Maps Go.WideMaps Go.Proofs.YtkgafkoopefghaaGreatDoor.Hk Go.Proofs.YtkgafkoopefghaaGreatDoorW.PrintWords Go.Proofs.YtkgafkoopefghaaGreatDoorW.PrintLast
theorem getS_fit {n v : ByteArray} : ∀ {l : List S31}, fitP l = true → getS l n = some v → v.size < 2147483648
  | [], _, h => by cases h
  | p :: r, hf, h => by
    unfold fitP at hf
    simp only [List.all_cons, Bool.and_eq_true, decide_eq_true_eq] at hf
    unfold getS at h
    by_cases e : p.f0.toList = n.toList
    · rw [if_pos e] at h
      cases h
      exact hf.1.2
    · rw [if_neg e] at h
      exact getS_fit (l := r) (by unfold fitP; exact hf.2) h
def FullEnd (a b : ByteArray) (l : List S31) (n : Int) (w : World) (e : Ending) (w' : World) : Prop := ∃ v2_ : Value, e = .returned (.tuple #[.agg #[.string a, .string b, v2_], .int .i64 n]) ∧ Kd.R k31 31 w' w.heap.size (fun _ => True) v2_ l ∧ Below w.heap.size w w'
theorem refused_end {w : World} {n : Int} {e : Ending} {w' : World} (h : Refused w n e w') : FullEnd ⟨#[]⟩ ⟨#[]⟩ [] n w e w' := ⟨_, h.1, Kd.R_nil _ _ _ _ _, h.2⟩
theorem main_end {a b : ByteArray} {P : List S31} {ens : ByteArray} {rs : List (ByteArray × RuleD)} {w : World} {e : Ending} {w' : World}
    (h : (okP rs P = false ∧ Refused w 62 e w') ∨ (okP rs P = true ∧ ((lacks ens P rs = true ∧ Refused w 62 e w') ∨ (lacks ens P rs = false ∧ FullEnd a b (outS ens P rs) 0 w e w')))) :
    FullEnd (if okP rs P = true then (if lacks ens P rs = true then (⟨#[]⟩, ⟨#[]⟩, [], 62) else (a, b, outS ens P rs, (0 : Int))) else ((⟨#[]⟩ : ByteArray), (⟨#[]⟩ : ByteArray), ([] : List S31), (62 : Int))).1 (if okP rs P = true then (if lacks ens P rs = true then (⟨#[]⟩, ⟨#[]⟩, [], 62) else (a, b, outS ens P rs, (0 : Int))) else ((⟨#[]⟩ : ByteArray), (⟨#[]⟩ : ByteArray), ([] : List S31), (62 : Int))).2.1 (if okP rs P = true then (if lacks ens P rs = true then (⟨#[]⟩, ⟨#[]⟩, [], 62) else (a, b, outS ens P rs, (0 : Int))) else ((⟨#[]⟩ : ByteArray), (⟨#[]⟩ : ByteArray), ([] : List S31), (62 : Int))).2.2.1 (if okP rs P = true then (if lacks ens P rs = true then (⟨#[]⟩, ⟨#[]⟩, [], 62) else (a, b, outS ens P rs, (0 : Int))) else ((⟨#[]⟩ : ByteArray), (⟨#[]⟩ : ByteArray), ([] : List S31), (62 : Int))).2.2.2 w e w' := by
  rcases h with ⟨h1, h2⟩ | ⟨h1, ⟨h2, h3⟩ | ⟨h2, h3⟩⟩
  · rw [if_neg (by rw [h1]; simp)]; exact refused_end h2
  · rw [if_pos h1, if_pos h2]; exact refused_end h3
  · rw [if_pos h1, if_neg (by rw [h2]; simp)]; exact h3
theorem full_any (a0_0 a0_1 : ByteArray) (A0_2 : Option Addr) (c0_2 : Nat) (l0_2 : List (S31)) (w : World) (hU : UtfOk w) (hr0_2 : Kd.C k31 w A0_2 l0_2.length l0_2) (hc0_2 : l0_2.length ≤ c0_2) (hs : a0_1.size < 2147483648) (hlen : l0_2.length < 2147483648) (hfit : fitP l0_2 = true) :
    Calls Tryz.prog 11 #[.agg #[.string a0_0, .string a0_1, .slice A0_2 l0_2.length c0_2]] w (FullEnd (fullS a0_0 a0_1 l0_2).1 (fullS a0_0 a0_1 l0_2).2.1 (fullS a0_0 a0_1 l0_2).2.2.1 (fullS a0_0 a0_1 l0_2).2.2.2 w) := by
  unfold fullS
  cases hk : shapesD a0_0 with
  | none => exact (full_kind a0_0 a0_1 A0_2 c0_2 l0_2 w hk).mono fun e w' h => refused_end h
  | some q =>
    obtain ⟨first, specs⟩ := q
    have h1 := (tidy_shapes hk).2
    simp only []
    cases ht : titleS a0_0 a0_1 with
    | false =>
      rw [if_neg (by simp)]
      exact (full_title a0_0 a0_1 A0_2 c0_2 l0_2 w hU first specs hk hs ht).mono fun e w' h => refused_end h
    | true =>
      rw [if_pos rfl]
      obtain ⟨r, hg⟩ : ∃ r, getS l0_2 ensB = r := ⟨_, rfl⟩
      rw [hg]
      cases r with
      | none =>
        simp only [Option.getD_none]
        have hget : toldR (getS l0_2 ensB) = (⟨#[]⟩, false) := by rw [hg]; rfl
        cases hn : findK specs first with
        | none => exact (full_ensure a0_0 a0_1 A0_2 c0_2 l0_2 w hU hr0_2 hc0_2 hlen first specs hk hs ht _ _ hget first (by simp) h1 hn).mono fun e w' h => refused_end h
        | some rs => exact (full_main a0_0 a0_1 A0_2 c0_2 l0_2 w hU hr0_2 hc0_2 hlen first specs hk hs ht _ _ hget first (by simp) h1 hfit rs hn).mono fun e w' h => main_end h
      | some v =>
        simp only [Option.getD_some]
        have hget : toldR (getS l0_2 ensB) = (v, true) := by rw [hg]; rfl
        have h2 := getS_fit hfit hg
        cases hn : findK specs v with
        | none => exact (full_ensure a0_0 a0_1 A0_2 c0_2 l0_2 w hU hr0_2 hc0_2 hlen first specs hk hs ht _ _ hget v (by simp) h2 hn).mono fun e w' h => refused_end h
        | some rs => exact (full_main a0_0 a0_1 A0_2 c0_2 l0_2 w hU hr0_2 hc0_2 hlen first specs hk hs ht _ _ hget v (by simp) h2 hfit rs hn).mono fun e w' h => main_end h
theorem resource_Full.calls (a0_0 : ByteArray) (a0_1 : ByteArray) (A0_2 : Option Addr) (c0_2 : Nat) (l0_2 : List (S31)) (r1 : ByteArray) (r2 : ByteArray) (r3 : List (S31)) (r4 : Int) (w : World) (hr0_2 : Kd.C k31 w A0_2 l0_2.length l0_2) (hc0_2 : l0_2.length ≤ c0_2) (h : resource_Full.f a0_0 a0_1 l0_2 = some (r1, r2, r3, r4)) (hU : UtfOk w) :
    Calls Tryz.prog 11 #[.agg #[.string a0_0, .string a0_1, .slice A0_2 l0_2.length c0_2]] w fun e w' => ∃ v2_ : Value, e = .returned (.tuple #[.agg #[.string r1, .string r2, v2_], .int .i64 r4]) ∧ Kd.R k31 31 w' w.heap.size (fun _ => True) v2_ r3 ∧ Below w.heap.size w w' := by
  unfold resource_Full.f at h
  by_cases c : a0_0.size < 2147483648 ∧ a0_1.size < 2147483648 ∧ l0_2.length < 2147483648 ∧ fitP l0_2 = true
  · rw [if_pos c] at h
    have := full_any a0_0 a0_1 A0_2 c0_2 l0_2 w hU hr0_2 hc0_2 c.2.1 c.2.2.1 c.2.2.2
    have e := Option.some.inj h
    rw [e] at this
    exact this
  · rw [if_neg c] at h
    cases h
end Go.Proofs.YtkgafkoopefghaaGreatDoor.PA
end
section
set_option linter.unusedVariables false
set_option linter.unusedSimpArgs false
namespace Go.Proofs.YtkgafkoopefghaaGreatDoor.PA
open Go.RowKit Go.Maps Go.WideMaps Go.Proofs.YtkgafkoopefghaaGreatDoor.Hk Go.Proofs.YtkgafkoopefghaaGreatDoorW.PrintWords
theorem byt_inj {s t : ByteArray} (h : s.data.toList = t.data.toList) : s = t := ByteArray.ext (Array.ext' h)
theorem namesS_are {rs : List (ByteArray × RuleD)} {L : List (List UInt8)} (hp : (ensB.data.toList :: rs.map (·.1.data.toList)).Perm L) (hs : L.Pairwise (fun x y => leB x y = true)) : namesS rs = L := by
  unfold namesS
  refine List.Perm.eq_of_pairwise ?_ (List.pairwise_mergeSort ?_ ?_ _) hs ((List.mergeSort_perm _ _).trans hp)
  · intro a b _ _ h1 h2
    exact List.le_antisymm (of_decide_eq_true h1) (of_decide_eq_true h2)
  · intro a b c h1 h2
    exact decide_eq_true (List.le_trans (of_decide_eq_true h1) (of_decide_eq_true h2))
  · intro a b
    rcases List.le_total a b with h | h
    · simp [leB, h]
    · simp [leB, h]
def ensR (first : ByteArray) (P : List S31) : ByteArray := (getS P ensB).getD first
theorem fullS_ok {kind a : ByteArray} {P : List S31} (h : (fullS kind a P).2.2.2 = 0) : ∃ first specs rs, shapesD kind = some (first, specs) ∧ findK specs (ensR first P) = some rs ∧ okP rs P = true ∧ fullS kind a P = (kind, a, outS (ensR first P) P rs, 0) := by
  have hr : ∀ first, (getS P ensB).getD first = ensR first P := fun _ => rfl
  unfold fullS at h ⊢
  cases hs : shapesD kind with
  | none => rw [hs] at h; cases h
  | some q =>
    obtain ⟨first, specs⟩ := q
    rw [hs] at h
    simp only [hr] at h ⊢
    by_cases ht : titleS kind a = true
    · rw [if_pos ht] at h ⊢
      cases hf : findK specs (ensR first P) with
      | none => rw [hf] at h; cases h
      | some rs =>
        rw [hf] at h
        simp only [] at h ⊢
        by_cases c : okP rs P = true
        · rw [if_pos c] at h ⊢
          by_cases c2 : lacks (ensR first P) P rs = true
          · rw [if_pos c2] at h; cases h
          · rw [if_neg c2]
            exact ⟨first, specs, rs, rfl, hf, c, rfl⟩
        · rw [if_neg c] at h; cases h
    · rw [if_neg ht] at h; cases h
theorem full_f (a b : ByteArray) (l : List S31) (h : a.size < 2147483648 ∧ b.size < 2147483648 ∧ l.length < 2147483648 ∧ fitP l = true) : resource_Full.f a b l = some (fullS a b l) := by
  unfold resource_Full.f
  rw [if_pos h]
end Go.Proofs.YtkgafkoopefghaaGreatDoor.PA
end
